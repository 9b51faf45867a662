/- What the functions that this claim reaches do and answer: printed words and walks, walks by hand and plain laws, packed together, each with its own remark; printed rows are by the kit's print program, turned by this session. Conditions: those that each theorem states. -/
import Derived.Test.YtekgienbhpknlaaKA1
import Derived.Test.YtekgienbhpknlaaKA4
import Derived.Test.YtekgienbhpknlaaKA3
import Derived.Test.YtekgienbhpknlaaKA2
section
namespace Go.Proofs.Ytekgienbhpknlaa.PL
open Go.RowKit Go.Proofs.YtekgienbhpknlaaW.PrintWords Go.Proofs.YtekgienbhpknlaaW.PrintLast Go.Proofs.YtekgienbhpknlaaW.PrintMore
attribute [local go_sem] max2_int min2_int max_two min_two max_three min_three max_four min_four   -- for this text's walks alone
set_option linter.unusedVariables false
set_option linter.unusedSimpArgs false

/-! ### gatelineref07_Is: function 52 -/
def gatelineref07_Is.f (a0 : Int) : Option (Bool) := if a0 ≥ 0 then (some (decide (a0 ≤ 39))) else (some false)
set_option maxHeartbeats 8000000 in
set_option maxRecDepth 100000 in
theorem gatelineref07_Is.calls (a0 : Int) (r : Bool) (w : World) (h : gatelineref07_Is.f a0 = some r) :
    Calls Try.prog 52 #[.int .i64 a0] w fun e w' => e = .returned (.bool r) ∧ Drawn0 w w' := by
  have H : (if a0 ≥ 0 then (some (decide (a0 ≤ 39))) else (some false)) = some r := h
  clear h
  by_cases c2 : a0 ≥ 0
  · rw [if_pos c2] at H
    have c2b0 : decide (0 ≤ a0) = true := decide_eq_true c2
    clear c2
    obtain rfl := Option.some.inj H
    go_enter Try.func52, Try.ntmps52
    go_wp2
    go_ret
    exact ⟨by first | rfl | (simp; done) | (simp [*]; done), by repeat (first | exact Drawn0.refl _ | apply Drawn0.step)⟩
  · rw [if_neg c2] at H
    have c2b0 : decide (0 ≤ a0) = false := decide_eq_false c2
    clear c2
    obtain rfl := Option.some.inj H
    go_enter Try.func52, Try.ntmps52
    go_wp2
    go_ret
    exact ⟨by first | rfl | (simp; done) | (simp [*]; done), by repeat (first | exact Drawn0.refl _ | apply Drawn0.step)⟩

/-! ### gatelineref09_place: function 49 -/
def gatelineref09_place.f (a0_0 : Int) (a0_1 : Int) (a0_2 : Int) (a0_3 : Int) (a0_4 : Int) (a0_5 : Int) (a0_6 : Int) (a0_7 : Int) (a0_8 : Int) (a0_9 : Int) (a0_10 : Int) : Option (Bool) := if a0_1 = 3 then (if a0_2 ≥ 1 then (if a0_2 ≤ a0_3 then (some (decide (a0_3 ≤ 6))) else (some false)) else (some false)) else ((gatelineref07_Is.f a0_2).bind fun t276 => (if t276 = true then ((gatelineref07_Is.f a0_3).bind fun t277 => (if t277 = true then (some (a0_2 != a0_3)) else (some false))) else (some false)))
set_option maxHeartbeats 8000000 in
set_option maxRecDepth 100000 in
theorem gatelineref09_place.calls (a0_0 : Int) (a0_1 : Int) (a0_2 : Int) (a0_3 : Int) (a0_4 : Int) (a0_5 : Int) (a0_6 : Int) (a0_7 : Int) (a0_8 : Int) (a0_9 : Int) (a0_10 : Int) (r : Bool) (w : World) (h : gatelineref09_place.f a0_0 a0_1 a0_2 a0_3 a0_4 a0_5 a0_6 a0_7 a0_8 a0_9 a0_10 = some r) :
    Calls Try.prog 49 #[.agg #[.int .i64 a0_0, .int .i64 a0_1, .int .i64 a0_2, .int .i64 a0_3, .int .i64 a0_4, .int .i64 a0_5, .int .i64 a0_6, .int .i64 a0_7, .int .i64 a0_8, .int .i64 a0_9, .int .i64 a0_10]] w fun e w' => e = .returned (.bool r) ∧ Below w.heap.size w w' := by
  have hu42 := Try.underlying42
  have HB := Aside0.mk (Below.refl w.heap.size w)
  have H : (if a0_1 = 3 then (if a0_2 ≥ 1 then (if a0_2 ≤ a0_3 then (some (decide (a0_3 ≤ 6))) else (some false)) else (some false)) else ((gatelineref07_Is.f a0_2).bind fun t276 => (if t276 = true then ((gatelineref07_Is.f a0_3).bind fun t277 => (if t277 = true then (some (a0_2 != a0_3)) else (some false))) else (some false)))) = some r := h
  clear h
  by_cases c2 : a0_1 = 3
  · rw [if_pos c2] at H
    have c2b0 : (a0_1 == 3) = true := beq_iff_eq.mpr c2
    have c2b1 : (a0_1 != 3) = false := bne_eq_false_iff_eq.mpr c2
    clear c2
    by_cases c3 : a0_2 ≥ 1
    · rw [if_pos c3] at H
      have c3b0 : decide (1 ≤ a0_2) = true := decide_eq_true c3
      clear c3
      by_cases c4 : a0_2 ≤ a0_3
      · rw [if_pos c4] at H
        have c4b0 : decide (a0_2 ≤ a0_3) = true := decide_eq_true c4
        clear c4
        obtain rfl := Option.some.inj H
        go_enter Try.func49, Try.ntmps49
        go_wp2_with (first | ((with_reducible refine gate_dst (N := 1) rfl ?_); refine box_event ?hg (N := 1) ?hd (cs := #[.int .i64 a0_0, .int .i64 a0_1, .int .i64 a0_2, .int .i64 a0_3, .int .i64 a0_4, .int .i64 a0_5, .int .i64 a0_6, .int .i64 a0_7, .int .i64 a0_8, .int .i64 a0_9, .int .i64 a0_10]) (t := 42) ?hr ?_; (case hd => rfl); (case hg => rfl); (case hr => first | (go_simp; done) | (go_simp; rfl)); intro gb275 hg w5 hbox hb; have n0_ := Aside0.mk (below_step (by repeat (first | (with_reducible first | exact HB.out | apply below_alloc | apply pw_below_drewN | apply below_drew1) | exact HB.out)) hb); have n1_ := Aside0.mk (hbox); have n2_ := Aside0.mk ((by rw [hg]; exact (below_size (by repeat (first | (with_reducible first | exact HB.out | apply below_alloc | apply pw_below_drewN | apply below_drew1) | exact HB.out))) : w.heap.size ≤ gb275)); have n3_ := Aside0.mk ((by rw [hg]; exact (below_size (by repeat (first | (with_reducible first | exact HB.out | apply below_alloc | apply pw_below_drewN | apply below_drew1) | exact HB.out))) : w.heap.size ≤ gb275)); clear HB; have HB := n0_; have BK275 := n1_; have GW275 := n2_; have GE275 := n3_; clear n0_ n1_ n2_ n3_; clear hb hbox hg; have hcz6_0 : w5.cell? ⟨gb275, 0, none⟩ = some (.int .i64 a0_0) := (blk_cell BK275.out 0).trans rfl; have hcz6_1 : w5.cell? ⟨gb275, 1, none⟩ = some (.int .i64 a0_1) := (blk_cell BK275.out 1).trans rfl; have hcz6_2 : w5.cell? ⟨gb275, 2, none⟩ = some (.int .i64 a0_2) := (blk_cell BK275.out 2).trans rfl; have hcz6_3 : w5.cell? ⟨gb275, 3, none⟩ = some (.int .i64 a0_3) := (blk_cell BK275.out 3).trans rfl; have hcz6_4 : w5.cell? ⟨gb275, 4, none⟩ = some (.int .i64 a0_4) := (blk_cell BK275.out 4).trans rfl; have hcz6_5 : w5.cell? ⟨gb275, 5, none⟩ = some (.int .i64 a0_5) := (blk_cell BK275.out 5).trans rfl; have hcz6_6 : w5.cell? ⟨gb275, 6, none⟩ = some (.int .i64 a0_6) := (blk_cell BK275.out 6).trans rfl; have hcz6_7 : w5.cell? ⟨gb275, 7, none⟩ = some (.int .i64 a0_7) := (blk_cell BK275.out 7).trans rfl; have hcz6_8 : w5.cell? ⟨gb275, 8, none⟩ = some (.int .i64 a0_8) := (blk_cell BK275.out 8).trans rfl; have hcz6_9 : w5.cell? ⟨gb275, 9, none⟩ = some (.int .i64 a0_9) := (blk_cell BK275.out 9).trans rfl; have hcz6_10 : w5.cell? ⟨gb275, 10, none⟩ = some (.int .i64 a0_10) := (blk_cell BK275.out 10).trans rfl; have hfz6_0 := blk_frozen BK275.out 0; have hfz6_1 := blk_frozen BK275.out 1; have hfz6_2 := blk_frozen BK275.out 2; have hfz6_3 := blk_frozen BK275.out 3; have hfz6_4 := blk_frozen BK275.out 4; have hfz6_5 := blk_frozen BK275.out 5; have hfz6_6 := blk_frozen BK275.out 6; have hfz6_7 := blk_frozen BK275.out 7; have hfz6_8 := blk_frozen BK275.out 8; have hfz6_9 := blk_frozen BK275.out 9; have hfz6_10 := blk_frozen BK275.out 10))
        go_ret
        exact ⟨by first | rfl | (simp [errW_none, errW_some] <;> rfl) | (simp [*, errW_none, errW_some] <;> rfl), by repeat (first | (with_reducible first | exact HB.out | apply below_alloc | apply pw_below_drewN | apply below_drew1 | refine below_set ?_ GE275.out) | exact HB.out)⟩
      · rw [if_neg c4] at H
        have c4b0 : decide (a0_2 ≤ a0_3) = false := decide_eq_false c4
        clear c4
        obtain rfl := Option.some.inj H
        go_enter Try.func49, Try.ntmps49
        go_wp2_with (first | ((with_reducible refine gate_dst (N := 1) rfl ?_); refine box_event ?hg (N := 1) ?hd (cs := #[.int .i64 a0_0, .int .i64 a0_1, .int .i64 a0_2, .int .i64 a0_3, .int .i64 a0_4, .int .i64 a0_5, .int .i64 a0_6, .int .i64 a0_7, .int .i64 a0_8, .int .i64 a0_9, .int .i64 a0_10]) (t := 42) ?hr ?_; (case hd => rfl); (case hg => rfl); (case hr => first | (go_simp; done) | (go_simp; rfl)); intro gb275 hg w7 hbox hb; have n0_ := Aside0.mk (below_step (by repeat (first | (with_reducible first | exact HB.out | apply below_alloc | apply pw_below_drewN | apply below_drew1) | exact HB.out)) hb); have n1_ := Aside0.mk (hbox); have n2_ := Aside0.mk ((by rw [hg]; exact (below_size (by repeat (first | (with_reducible first | exact HB.out | apply below_alloc | apply pw_below_drewN | apply below_drew1) | exact HB.out))) : w.heap.size ≤ gb275)); have n3_ := Aside0.mk ((by rw [hg]; exact (below_size (by repeat (first | (with_reducible first | exact HB.out | apply below_alloc | apply pw_below_drewN | apply below_drew1) | exact HB.out))) : w.heap.size ≤ gb275)); clear HB; have HB := n0_; have BK275 := n1_; have GW275 := n2_; have GE275 := n3_; clear n0_ n1_ n2_ n3_; clear hb hbox hg; have hcz8_0 : w7.cell? ⟨gb275, 0, none⟩ = some (.int .i64 a0_0) := (blk_cell BK275.out 0).trans rfl; have hcz8_1 : w7.cell? ⟨gb275, 1, none⟩ = some (.int .i64 a0_1) := (blk_cell BK275.out 1).trans rfl; have hcz8_2 : w7.cell? ⟨gb275, 2, none⟩ = some (.int .i64 a0_2) := (blk_cell BK275.out 2).trans rfl; have hcz8_3 : w7.cell? ⟨gb275, 3, none⟩ = some (.int .i64 a0_3) := (blk_cell BK275.out 3).trans rfl; have hcz8_4 : w7.cell? ⟨gb275, 4, none⟩ = some (.int .i64 a0_4) := (blk_cell BK275.out 4).trans rfl; have hcz8_5 : w7.cell? ⟨gb275, 5, none⟩ = some (.int .i64 a0_5) := (blk_cell BK275.out 5).trans rfl; have hcz8_6 : w7.cell? ⟨gb275, 6, none⟩ = some (.int .i64 a0_6) := (blk_cell BK275.out 6).trans rfl; have hcz8_7 : w7.cell? ⟨gb275, 7, none⟩ = some (.int .i64 a0_7) := (blk_cell BK275.out 7).trans rfl; have hcz8_8 : w7.cell? ⟨gb275, 8, none⟩ = some (.int .i64 a0_8) := (blk_cell BK275.out 8).trans rfl; have hcz8_9 : w7.cell? ⟨gb275, 9, none⟩ = some (.int .i64 a0_9) := (blk_cell BK275.out 9).trans rfl; have hcz8_10 : w7.cell? ⟨gb275, 10, none⟩ = some (.int .i64 a0_10) := (blk_cell BK275.out 10).trans rfl; have hfz8_0 := blk_frozen BK275.out 0; have hfz8_1 := blk_frozen BK275.out 1; have hfz8_2 := blk_frozen BK275.out 2; have hfz8_3 := blk_frozen BK275.out 3; have hfz8_4 := blk_frozen BK275.out 4; have hfz8_5 := blk_frozen BK275.out 5; have hfz8_6 := blk_frozen BK275.out 6; have hfz8_7 := blk_frozen BK275.out 7; have hfz8_8 := blk_frozen BK275.out 8; have hfz8_9 := blk_frozen BK275.out 9; have hfz8_10 := blk_frozen BK275.out 10))
        go_ret
        exact ⟨by first | rfl | (simp [errW_none, errW_some] <;> rfl) | (simp [*, errW_none, errW_some] <;> rfl), by repeat (first | (with_reducible first | exact HB.out | apply below_alloc | apply pw_below_drewN | apply below_drew1 | refine below_set ?_ GE275.out) | exact HB.out)⟩
    · rw [if_neg c3] at H
      have c3b0 : decide (1 ≤ a0_2) = false := decide_eq_false c3
      clear c3
      obtain rfl := Option.some.inj H
      go_enter Try.func49, Try.ntmps49
      go_wp2_with (first | ((with_reducible refine gate_dst (N := 1) rfl ?_); refine box_event ?hg (N := 1) ?hd (cs := #[.int .i64 a0_0, .int .i64 a0_1, .int .i64 a0_2, .int .i64 a0_3, .int .i64 a0_4, .int .i64 a0_5, .int .i64 a0_6, .int .i64 a0_7, .int .i64 a0_8, .int .i64 a0_9, .int .i64 a0_10]) (t := 42) ?hr ?_; (case hd => rfl); (case hg => rfl); (case hr => first | (go_simp; done) | (go_simp; rfl)); intro gb275 hg w9 hbox hb; have n0_ := Aside0.mk (below_step (by repeat (first | (with_reducible first | exact HB.out | apply below_alloc | apply pw_below_drewN | apply below_drew1) | exact HB.out)) hb); have n1_ := Aside0.mk (hbox); have n2_ := Aside0.mk ((by rw [hg]; exact (below_size (by repeat (first | (with_reducible first | exact HB.out | apply below_alloc | apply pw_below_drewN | apply below_drew1) | exact HB.out))) : w.heap.size ≤ gb275)); have n3_ := Aside0.mk ((by rw [hg]; exact (below_size (by repeat (first | (with_reducible first | exact HB.out | apply below_alloc | apply pw_below_drewN | apply below_drew1) | exact HB.out))) : w.heap.size ≤ gb275)); clear HB; have HB := n0_; have BK275 := n1_; have GW275 := n2_; have GE275 := n3_; clear n0_ n1_ n2_ n3_; clear hb hbox hg; have hcz10_0 : w9.cell? ⟨gb275, 0, none⟩ = some (.int .i64 a0_0) := (blk_cell BK275.out 0).trans rfl; have hcz10_1 : w9.cell? ⟨gb275, 1, none⟩ = some (.int .i64 a0_1) := (blk_cell BK275.out 1).trans rfl; have hcz10_2 : w9.cell? ⟨gb275, 2, none⟩ = some (.int .i64 a0_2) := (blk_cell BK275.out 2).trans rfl; have hcz10_3 : w9.cell? ⟨gb275, 3, none⟩ = some (.int .i64 a0_3) := (blk_cell BK275.out 3).trans rfl; have hcz10_4 : w9.cell? ⟨gb275, 4, none⟩ = some (.int .i64 a0_4) := (blk_cell BK275.out 4).trans rfl; have hcz10_5 : w9.cell? ⟨gb275, 5, none⟩ = some (.int .i64 a0_5) := (blk_cell BK275.out 5).trans rfl; have hcz10_6 : w9.cell? ⟨gb275, 6, none⟩ = some (.int .i64 a0_6) := (blk_cell BK275.out 6).trans rfl; have hcz10_7 : w9.cell? ⟨gb275, 7, none⟩ = some (.int .i64 a0_7) := (blk_cell BK275.out 7).trans rfl; have hcz10_8 : w9.cell? ⟨gb275, 8, none⟩ = some (.int .i64 a0_8) := (blk_cell BK275.out 8).trans rfl; have hcz10_9 : w9.cell? ⟨gb275, 9, none⟩ = some (.int .i64 a0_9) := (blk_cell BK275.out 9).trans rfl; have hcz10_10 : w9.cell? ⟨gb275, 10, none⟩ = some (.int .i64 a0_10) := (blk_cell BK275.out 10).trans rfl; have hfz10_0 := blk_frozen BK275.out 0; have hfz10_1 := blk_frozen BK275.out 1; have hfz10_2 := blk_frozen BK275.out 2; have hfz10_3 := blk_frozen BK275.out 3; have hfz10_4 := blk_frozen BK275.out 4; have hfz10_5 := blk_frozen BK275.out 5; have hfz10_6 := blk_frozen BK275.out 6; have hfz10_7 := blk_frozen BK275.out 7; have hfz10_8 := blk_frozen BK275.out 8; have hfz10_9 := blk_frozen BK275.out 9; have hfz10_10 := blk_frozen BK275.out 10))
      go_ret
      exact ⟨by first | rfl | (simp [errW_none, errW_some] <;> rfl) | (simp [*, errW_none, errW_some] <;> rfl), by repeat (first | (with_reducible first | exact HB.out | apply below_alloc | apply pw_below_drewN | apply below_drew1 | refine below_set ?_ GE275.out) | exact HB.out)⟩
  · rw [if_neg c2] at H
    have c2b0 : (a0_1 == 3) = false := beq_eq_false_iff_ne.mpr c2
    have c2b1 : (a0_1 != 3) = true := bne_iff_ne.mpr c2
    replace H := Option.bind_eq_some_iff.mp H
    obtain ⟨t276, A110, H⟩ := H
    replace H : (if t276 = true then ((gatelineref07_Is.f a0_3).bind fun t277 => (if t277 = true then (some (a0_2 != a0_3)) else (some false))) else (some false)) = some r := H
    have A11 := Aside0.mk A110
    clear A110
    by_cases c12 : t276 = true
    · subst c12
      have H1 : ((gatelineref07_Is.f a0_3).bind fun t277 => (if t277 = true then (some (a0_2 != a0_3)) else (some false))) = some r := by rw [if_pos rfl] at H; exact H
      clear H
      have H := H1
      clear H1
      replace H := Option.bind_eq_some_iff.mp H
      obtain ⟨t277, A130, H⟩ := H
      replace H : (if t277 = true then (some (a0_2 != a0_3)) else (some false)) = some r := H
      have A13 := Aside0.mk A130
      clear A130
      by_cases c14 : t277 = true
      · subst c14
        have H1 : (some (a0_2 != a0_3)) = some r := by rw [if_pos rfl] at H; exact H
        clear H
        have H := H1
        clear H1
        obtain rfl := Option.some.inj H
        go_enter Try.func49, Try.ntmps49
        go_wp2_with (first | ((with_reducible refine gate_dst (N := 1) rfl ?_); refine box_event ?hg (N := 1) ?hd (cs := #[.int .i64 a0_0, .int .i64 a0_1, .int .i64 a0_2, .int .i64 a0_3, .int .i64 a0_4, .int .i64 a0_5, .int .i64 a0_6, .int .i64 a0_7, .int .i64 a0_8, .int .i64 a0_9, .int .i64 a0_10]) (t := 42) ?hr ?_; (case hd => rfl); (case hg => rfl); (case hr => first | (go_simp; done) | (go_simp; rfl)); intro gb275 hg w15 hbox hb; have n0_ := Aside0.mk (below_step (by repeat (first | (with_reducible first | exact HB.out | apply below_alloc | apply pw_below_drewN | apply below_drew1) | exact HB.out)) hb); have n1_ := Aside0.mk (hbox); have n2_ := Aside0.mk ((by rw [hg]; exact (below_size (by repeat (first | (with_reducible first | exact HB.out | apply below_alloc | apply pw_below_drewN | apply below_drew1) | exact HB.out))) : w.heap.size ≤ gb275)); have n3_ := Aside0.mk ((by rw [hg]; exact (below_size (by repeat (first | (with_reducible first | exact HB.out | apply below_alloc | apply pw_below_drewN | apply below_drew1) | exact HB.out))) : w.heap.size ≤ gb275)); clear HB; have HB := n0_; have BK275 := n1_; have GW275 := n2_; have GE275 := n3_; clear n0_ n1_ n2_ n3_; clear hb hbox hg; have hcz16_0 : w15.cell? ⟨gb275, 0, none⟩ = some (.int .i64 a0_0) := (blk_cell BK275.out 0).trans rfl; have hcz16_1 : w15.cell? ⟨gb275, 1, none⟩ = some (.int .i64 a0_1) := (blk_cell BK275.out 1).trans rfl; have hcz16_2 : w15.cell? ⟨gb275, 2, none⟩ = some (.int .i64 a0_2) := (blk_cell BK275.out 2).trans rfl; have hcz16_3 : w15.cell? ⟨gb275, 3, none⟩ = some (.int .i64 a0_3) := (blk_cell BK275.out 3).trans rfl; have hcz16_4 : w15.cell? ⟨gb275, 4, none⟩ = some (.int .i64 a0_4) := (blk_cell BK275.out 4).trans rfl; have hcz16_5 : w15.cell? ⟨gb275, 5, none⟩ = some (.int .i64 a0_5) := (blk_cell BK275.out 5).trans rfl; have hcz16_6 : w15.cell? ⟨gb275, 6, none⟩ = some (.int .i64 a0_6) := (blk_cell BK275.out 6).trans rfl; have hcz16_7 : w15.cell? ⟨gb275, 7, none⟩ = some (.int .i64 a0_7) := (blk_cell BK275.out 7).trans rfl; have hcz16_8 : w15.cell? ⟨gb275, 8, none⟩ = some (.int .i64 a0_8) := (blk_cell BK275.out 8).trans rfl; have hcz16_9 : w15.cell? ⟨gb275, 9, none⟩ = some (.int .i64 a0_9) := (blk_cell BK275.out 9).trans rfl; have hcz16_10 : w15.cell? ⟨gb275, 10, none⟩ = some (.int .i64 a0_10) := (blk_cell BK275.out 10).trans rfl; have hfz16_0 := blk_frozen BK275.out 0; have hfz16_1 := blk_frozen BK275.out 1; have hfz16_2 := blk_frozen BK275.out 2; have hfz16_3 := blk_frozen BK275.out 3; have hfz16_4 := blk_frozen BK275.out 4; have hfz16_5 := blk_frozen BK275.out 5; have hfz16_6 := blk_frozen BK275.out 6; have hfz16_7 := blk_frozen BK275.out 7; have hfz16_8 := blk_frozen BK275.out 8; have hfz16_9 := blk_frozen BK275.out 9; have hfz16_10 := blk_frozen BK275.out 10) | ((with_reducible refine gate_callee (f := 52) rfl ?_); refine goesL_ (some 23) rfl rfl Try.func52 (by kernel_rfl) rfl #[.int .i64 a0_2] rfl (by (try simp only [List.map_toArray, List.map_cons, List.map_nil]); first | done | rfl | (simp only [List.length_drop, List.length_take]; rfl)) ?_; (with_reducible refine (gatelineref07_Is.calls a0_2 true _ A11.out).mono ?_); rintro e w' ⟨rfl, ⟨nd, rfl⟩⟩; refine ⟨_, rfl, ?_⟩; (try clear A11)) | (go_at_call 52; (with_reducible refine (gatelineref07_Is.calls a0_3 true _ A13.out).mono ?_); rintro e w' ⟨rfl, ⟨nd, rfl⟩⟩; (try clear A13)))
        go_ret
        exact ⟨by first | rfl | (simp [errW_none, errW_some] <;> rfl) | (simp [*, errW_none, errW_some] <;> rfl), by repeat (first | (with_reducible first | exact HB.out | apply below_alloc | apply pw_below_drewN | apply below_drew1 | refine below_set ?_ GE275.out) | exact HB.out)⟩
      · replace c14 := Bool.eq_false_iff.mpr c14
        subst c14
        have H1 : (some false) = some r := by rw [if_neg (show ¬ (false = true) by decide)] at H; exact H
        clear H
        have H := H1
        clear H1
        obtain rfl := Option.some.inj H
        go_enter Try.func49, Try.ntmps49
        go_wp2_with (first | ((with_reducible refine gate_dst (N := 1) rfl ?_); refine box_event ?hg (N := 1) ?hd (cs := #[.int .i64 a0_0, .int .i64 a0_1, .int .i64 a0_2, .int .i64 a0_3, .int .i64 a0_4, .int .i64 a0_5, .int .i64 a0_6, .int .i64 a0_7, .int .i64 a0_8, .int .i64 a0_9, .int .i64 a0_10]) (t := 42) ?hr ?_; (case hd => rfl); (case hg => rfl); (case hr => first | (go_simp; done) | (go_simp; rfl)); intro gb275 hg w17 hbox hb; have n0_ := Aside0.mk (below_step (by repeat (first | (with_reducible first | exact HB.out | apply below_alloc | apply pw_below_drewN | apply below_drew1) | exact HB.out)) hb); have n1_ := Aside0.mk (hbox); have n2_ := Aside0.mk ((by rw [hg]; exact (below_size (by repeat (first | (with_reducible first | exact HB.out | apply below_alloc | apply pw_below_drewN | apply below_drew1) | exact HB.out))) : w.heap.size ≤ gb275)); have n3_ := Aside0.mk ((by rw [hg]; exact (below_size (by repeat (first | (with_reducible first | exact HB.out | apply below_alloc | apply pw_below_drewN | apply below_drew1) | exact HB.out))) : w.heap.size ≤ gb275)); clear HB; have HB := n0_; have BK275 := n1_; have GW275 := n2_; have GE275 := n3_; clear n0_ n1_ n2_ n3_; clear hb hbox hg; have hcz18_0 : w17.cell? ⟨gb275, 0, none⟩ = some (.int .i64 a0_0) := (blk_cell BK275.out 0).trans rfl; have hcz18_1 : w17.cell? ⟨gb275, 1, none⟩ = some (.int .i64 a0_1) := (blk_cell BK275.out 1).trans rfl; have hcz18_2 : w17.cell? ⟨gb275, 2, none⟩ = some (.int .i64 a0_2) := (blk_cell BK275.out 2).trans rfl; have hcz18_3 : w17.cell? ⟨gb275, 3, none⟩ = some (.int .i64 a0_3) := (blk_cell BK275.out 3).trans rfl; have hcz18_4 : w17.cell? ⟨gb275, 4, none⟩ = some (.int .i64 a0_4) := (blk_cell BK275.out 4).trans rfl; have hcz18_5 : w17.cell? ⟨gb275, 5, none⟩ = some (.int .i64 a0_5) := (blk_cell BK275.out 5).trans rfl; have hcz18_6 : w17.cell? ⟨gb275, 6, none⟩ = some (.int .i64 a0_6) := (blk_cell BK275.out 6).trans rfl; have hcz18_7 : w17.cell? ⟨gb275, 7, none⟩ = some (.int .i64 a0_7) := (blk_cell BK275.out 7).trans rfl; have hcz18_8 : w17.cell? ⟨gb275, 8, none⟩ = some (.int .i64 a0_8) := (blk_cell BK275.out 8).trans rfl; have hcz18_9 : w17.cell? ⟨gb275, 9, none⟩ = some (.int .i64 a0_9) := (blk_cell BK275.out 9).trans rfl; have hcz18_10 : w17.cell? ⟨gb275, 10, none⟩ = some (.int .i64 a0_10) := (blk_cell BK275.out 10).trans rfl; have hfz18_0 := blk_frozen BK275.out 0; have hfz18_1 := blk_frozen BK275.out 1; have hfz18_2 := blk_frozen BK275.out 2; have hfz18_3 := blk_frozen BK275.out 3; have hfz18_4 := blk_frozen BK275.out 4; have hfz18_5 := blk_frozen BK275.out 5; have hfz18_6 := blk_frozen BK275.out 6; have hfz18_7 := blk_frozen BK275.out 7; have hfz18_8 := blk_frozen BK275.out 8; have hfz18_9 := blk_frozen BK275.out 9; have hfz18_10 := blk_frozen BK275.out 10) | ((with_reducible refine gate_callee (f := 52) rfl ?_); refine goesL_ (some 23) rfl rfl Try.func52 (by kernel_rfl) rfl #[.int .i64 a0_2] rfl (by (try simp only [List.map_toArray, List.map_cons, List.map_nil]); first | done | rfl | (simp only [List.length_drop, List.length_take]; rfl)) ?_; (with_reducible refine (gatelineref07_Is.calls a0_2 true _ A11.out).mono ?_); rintro e w' ⟨rfl, ⟨nd, rfl⟩⟩; refine ⟨_, rfl, ?_⟩; (try clear A11)) | (go_at_call 52; (with_reducible refine (gatelineref07_Is.calls a0_3 false _ A13.out).mono ?_); rintro e w' ⟨rfl, ⟨nd, rfl⟩⟩; (try clear A13)))
        go_ret
        exact ⟨by first | rfl | (simp [errW_none, errW_some] <;> rfl) | (simp [*, errW_none, errW_some] <;> rfl), by repeat (first | (with_reducible first | exact HB.out | apply below_alloc | apply pw_below_drewN | apply below_drew1 | refine below_set ?_ GE275.out) | exact HB.out)⟩
    · replace c12 := Bool.eq_false_iff.mpr c12
      subst c12
      have H1 : (some false) = some r := by rw [if_neg (show ¬ (false = true) by decide)] at H; exact H
      clear H
      have H := H1
      clear H1
      obtain rfl := Option.some.inj H
      go_enter Try.func49, Try.ntmps49
      go_wp2_with (first | ((with_reducible refine gate_dst (N := 1) rfl ?_); refine box_event ?hg (N := 1) ?hd (cs := #[.int .i64 a0_0, .int .i64 a0_1, .int .i64 a0_2, .int .i64 a0_3, .int .i64 a0_4, .int .i64 a0_5, .int .i64 a0_6, .int .i64 a0_7, .int .i64 a0_8, .int .i64 a0_9, .int .i64 a0_10]) (t := 42) ?hr ?_; (case hd => rfl); (case hg => rfl); (case hr => first | (go_simp; done) | (go_simp; rfl)); intro gb275 hg w19 hbox hb; have n0_ := Aside0.mk (below_step (by repeat (first | (with_reducible first | exact HB.out | apply below_alloc | apply pw_below_drewN | apply below_drew1) | exact HB.out)) hb); have n1_ := Aside0.mk (hbox); have n2_ := Aside0.mk ((by rw [hg]; exact (below_size (by repeat (first | (with_reducible first | exact HB.out | apply below_alloc | apply pw_below_drewN | apply below_drew1) | exact HB.out))) : w.heap.size ≤ gb275)); have n3_ := Aside0.mk ((by rw [hg]; exact (below_size (by repeat (first | (with_reducible first | exact HB.out | apply below_alloc | apply pw_below_drewN | apply below_drew1) | exact HB.out))) : w.heap.size ≤ gb275)); clear HB; have HB := n0_; have BK275 := n1_; have GW275 := n2_; have GE275 := n3_; clear n0_ n1_ n2_ n3_; clear hb hbox hg; have hcz20_0 : w19.cell? ⟨gb275, 0, none⟩ = some (.int .i64 a0_0) := (blk_cell BK275.out 0).trans rfl; have hcz20_1 : w19.cell? ⟨gb275, 1, none⟩ = some (.int .i64 a0_1) := (blk_cell BK275.out 1).trans rfl; have hcz20_2 : w19.cell? ⟨gb275, 2, none⟩ = some (.int .i64 a0_2) := (blk_cell BK275.out 2).trans rfl; have hcz20_3 : w19.cell? ⟨gb275, 3, none⟩ = some (.int .i64 a0_3) := (blk_cell BK275.out 3).trans rfl; have hcz20_4 : w19.cell? ⟨gb275, 4, none⟩ = some (.int .i64 a0_4) := (blk_cell BK275.out 4).trans rfl; have hcz20_5 : w19.cell? ⟨gb275, 5, none⟩ = some (.int .i64 a0_5) := (blk_cell BK275.out 5).trans rfl; have hcz20_6 : w19.cell? ⟨gb275, 6, none⟩ = some (.int .i64 a0_6) := (blk_cell BK275.out 6).trans rfl; have hcz20_7 : w19.cell? ⟨gb275, 7, none⟩ = some (.int .i64 a0_7) := (blk_cell BK275.out 7).trans rfl; have hcz20_8 : w19.cell? ⟨gb275, 8, none⟩ = some (.int .i64 a0_8) := (blk_cell BK275.out 8).trans rfl; have hcz20_9 : w19.cell? ⟨gb275, 9, none⟩ = some (.int .i64 a0_9) := (blk_cell BK275.out 9).trans rfl; have hcz20_10 : w19.cell? ⟨gb275, 10, none⟩ = some (.int .i64 a0_10) := (blk_cell BK275.out 10).trans rfl; have hfz20_0 := blk_frozen BK275.out 0; have hfz20_1 := blk_frozen BK275.out 1; have hfz20_2 := blk_frozen BK275.out 2; have hfz20_3 := blk_frozen BK275.out 3; have hfz20_4 := blk_frozen BK275.out 4; have hfz20_5 := blk_frozen BK275.out 5; have hfz20_6 := blk_frozen BK275.out 6; have hfz20_7 := blk_frozen BK275.out 7; have hfz20_8 := blk_frozen BK275.out 8; have hfz20_9 := blk_frozen BK275.out 9; have hfz20_10 := blk_frozen BK275.out 10) | ((with_reducible refine gate_callee (f := 52) rfl ?_); refine goesL_ (some 23) rfl rfl Try.func52 (by kernel_rfl) rfl #[.int .i64 a0_2] rfl (by (try simp only [List.map_toArray, List.map_cons, List.map_nil]); first | done | rfl | (simp only [List.length_drop, List.length_take]; rfl)) ?_; (with_reducible refine (gatelineref07_Is.calls a0_2 false _ A11.out).mono ?_); rintro e w' ⟨rfl, ⟨nd, rfl⟩⟩; refine ⟨_, rfl, ?_⟩; (try clear A11)))
      go_ret
      exact ⟨by first | rfl | (simp [errW_none, errW_some] <;> rfl) | (simp [*, errW_none, errW_some] <;> rfl), by repeat (first | (with_reducible first | exact HB.out | apply below_alloc | apply pw_below_drewN | apply below_drew1 | refine below_set ?_ GE275.out) | exact HB.out)⟩

/-! ### gatelineref09_uses: function 50 -/
def gatelineref09_uses.f (a0_0 : Int) (a0_1 : Int) (a0_2 : Int) (a0_3 : Int) (a0_4 : Int) (a0_5 : Int) (a0_6 : Int) (a0_7 : Int) (a0_8 : Int) (a0_9 : Int) (a0_10 : Int) : Option (Bool) := if a0_1 = 4 then (if a0_9 ≥ 2 then (some (decide (a0_9 ≤ 20))) else (some false)) else (some (a0_9 == (Int.tmod a0_1 3)))
set_option maxHeartbeats 8000000 in
set_option maxRecDepth 100000 in
theorem gatelineref09_uses.calls (a0_0 : Int) (a0_1 : Int) (a0_2 : Int) (a0_3 : Int) (a0_4 : Int) (a0_5 : Int) (a0_6 : Int) (a0_7 : Int) (a0_8 : Int) (a0_9 : Int) (a0_10 : Int) (r : Bool) (w : World) (h : gatelineref09_uses.f a0_0 a0_1 a0_2 a0_3 a0_4 a0_5 a0_6 a0_7 a0_8 a0_9 a0_10 = some r) :
    Calls Try.prog 50 #[.agg #[.int .i64 a0_0, .int .i64 a0_1, .int .i64 a0_2, .int .i64 a0_3, .int .i64 a0_4, .int .i64 a0_5, .int .i64 a0_6, .int .i64 a0_7, .int .i64 a0_8, .int .i64 a0_9, .int .i64 a0_10]] w fun e w' => e = .returned (.bool r) ∧ Below w.heap.size w w' := by
  have hu42 := Try.underlying42
  have HB := Aside0.mk (Below.refl w.heap.size w)
  have H : (if a0_1 = 4 then (if a0_9 ≥ 2 then (some (decide (a0_9 ≤ 20))) else (some false)) else (some (a0_9 == (Int.tmod a0_1 3)))) = some r := h
  clear h
  by_cases c2 : a0_1 = 4
  · rw [if_pos c2] at H
    have c2b0 : (a0_1 == 4) = true := beq_iff_eq.mpr c2
    have c2b1 : (a0_1 != 4) = false := bne_eq_false_iff_eq.mpr c2
    clear c2
    by_cases c3 : a0_9 ≥ 2
    · rw [if_pos c3] at H
      have c3b0 : decide (2 ≤ a0_9) = true := decide_eq_true c3
      clear c3
      obtain rfl := Option.some.inj H
      go_enter Try.func50, Try.ntmps50
      go_wp2_with (first | ((with_reducible refine gate_dst (N := 1) rfl ?_); refine box_event ?hg (N := 1) ?hd (cs := #[.int .i64 a0_0, .int .i64 a0_1, .int .i64 a0_2, .int .i64 a0_3, .int .i64 a0_4, .int .i64 a0_5, .int .i64 a0_6, .int .i64 a0_7, .int .i64 a0_8, .int .i64 a0_9, .int .i64 a0_10]) (t := 42) ?hr ?_; (case hd => rfl); (case hg => rfl); (case hr => first | (go_simp; done) | (go_simp; rfl)); intro gb278 hg w4 hbox hb; have n0_ := Aside0.mk (below_step (by repeat (first | (with_reducible first | exact HB.out | apply below_alloc | apply pw_below_drewN | apply below_drew1) | exact HB.out)) hb); have n1_ := Aside0.mk (hbox); have n2_ := Aside0.mk ((by rw [hg]; exact (below_size (by repeat (first | (with_reducible first | exact HB.out | apply below_alloc | apply pw_below_drewN | apply below_drew1) | exact HB.out))) : w.heap.size ≤ gb278)); have n3_ := Aside0.mk ((by rw [hg]; exact (below_size (by repeat (first | (with_reducible first | exact HB.out | apply below_alloc | apply pw_below_drewN | apply below_drew1) | exact HB.out))) : w.heap.size ≤ gb278)); clear HB; have HB := n0_; have BK278 := n1_; have GW278 := n2_; have GE278 := n3_; clear n0_ n1_ n2_ n3_; clear hb hbox hg; have hcz5_0 : w4.cell? ⟨gb278, 0, none⟩ = some (.int .i64 a0_0) := (blk_cell BK278.out 0).trans rfl; have hcz5_1 : w4.cell? ⟨gb278, 1, none⟩ = some (.int .i64 a0_1) := (blk_cell BK278.out 1).trans rfl; have hcz5_2 : w4.cell? ⟨gb278, 2, none⟩ = some (.int .i64 a0_2) := (blk_cell BK278.out 2).trans rfl; have hcz5_3 : w4.cell? ⟨gb278, 3, none⟩ = some (.int .i64 a0_3) := (blk_cell BK278.out 3).trans rfl; have hcz5_4 : w4.cell? ⟨gb278, 4, none⟩ = some (.int .i64 a0_4) := (blk_cell BK278.out 4).trans rfl; have hcz5_5 : w4.cell? ⟨gb278, 5, none⟩ = some (.int .i64 a0_5) := (blk_cell BK278.out 5).trans rfl; have hcz5_6 : w4.cell? ⟨gb278, 6, none⟩ = some (.int .i64 a0_6) := (blk_cell BK278.out 6).trans rfl; have hcz5_7 : w4.cell? ⟨gb278, 7, none⟩ = some (.int .i64 a0_7) := (blk_cell BK278.out 7).trans rfl; have hcz5_8 : w4.cell? ⟨gb278, 8, none⟩ = some (.int .i64 a0_8) := (blk_cell BK278.out 8).trans rfl; have hcz5_9 : w4.cell? ⟨gb278, 9, none⟩ = some (.int .i64 a0_9) := (blk_cell BK278.out 9).trans rfl; have hcz5_10 : w4.cell? ⟨gb278, 10, none⟩ = some (.int .i64 a0_10) := (blk_cell BK278.out 10).trans rfl; have hfz5_0 := blk_frozen BK278.out 0; have hfz5_1 := blk_frozen BK278.out 1; have hfz5_2 := blk_frozen BK278.out 2; have hfz5_3 := blk_frozen BK278.out 3; have hfz5_4 := blk_frozen BK278.out 4; have hfz5_5 := blk_frozen BK278.out 5; have hfz5_6 := blk_frozen BK278.out 6; have hfz5_7 := blk_frozen BK278.out 7; have hfz5_8 := blk_frozen BK278.out 8; have hfz5_9 := blk_frozen BK278.out 9; have hfz5_10 := blk_frozen BK278.out 10))
      go_ret
      exact ⟨by first | rfl | (simp [errW_none, errW_some] <;> rfl) | (simp [*, errW_none, errW_some] <;> rfl), by repeat (first | (with_reducible first | exact HB.out | apply below_alloc | apply pw_below_drewN | apply below_drew1 | refine below_set ?_ GE278.out) | exact HB.out)⟩
    · rw [if_neg c3] at H
      have c3b0 : decide (2 ≤ a0_9) = false := decide_eq_false c3
      clear c3
      obtain rfl := Option.some.inj H
      go_enter Try.func50, Try.ntmps50
      go_wp2_with (first | ((with_reducible refine gate_dst (N := 1) rfl ?_); refine box_event ?hg (N := 1) ?hd (cs := #[.int .i64 a0_0, .int .i64 a0_1, .int .i64 a0_2, .int .i64 a0_3, .int .i64 a0_4, .int .i64 a0_5, .int .i64 a0_6, .int .i64 a0_7, .int .i64 a0_8, .int .i64 a0_9, .int .i64 a0_10]) (t := 42) ?hr ?_; (case hd => rfl); (case hg => rfl); (case hr => first | (go_simp; done) | (go_simp; rfl)); intro gb278 hg w6 hbox hb; have n0_ := Aside0.mk (below_step (by repeat (first | (with_reducible first | exact HB.out | apply below_alloc | apply pw_below_drewN | apply below_drew1) | exact HB.out)) hb); have n1_ := Aside0.mk (hbox); have n2_ := Aside0.mk ((by rw [hg]; exact (below_size (by repeat (first | (with_reducible first | exact HB.out | apply below_alloc | apply pw_below_drewN | apply below_drew1) | exact HB.out))) : w.heap.size ≤ gb278)); have n3_ := Aside0.mk ((by rw [hg]; exact (below_size (by repeat (first | (with_reducible first | exact HB.out | apply below_alloc | apply pw_below_drewN | apply below_drew1) | exact HB.out))) : w.heap.size ≤ gb278)); clear HB; have HB := n0_; have BK278 := n1_; have GW278 := n2_; have GE278 := n3_; clear n0_ n1_ n2_ n3_; clear hb hbox hg; have hcz7_0 : w6.cell? ⟨gb278, 0, none⟩ = some (.int .i64 a0_0) := (blk_cell BK278.out 0).trans rfl; have hcz7_1 : w6.cell? ⟨gb278, 1, none⟩ = some (.int .i64 a0_1) := (blk_cell BK278.out 1).trans rfl; have hcz7_2 : w6.cell? ⟨gb278, 2, none⟩ = some (.int .i64 a0_2) := (blk_cell BK278.out 2).trans rfl; have hcz7_3 : w6.cell? ⟨gb278, 3, none⟩ = some (.int .i64 a0_3) := (blk_cell BK278.out 3).trans rfl; have hcz7_4 : w6.cell? ⟨gb278, 4, none⟩ = some (.int .i64 a0_4) := (blk_cell BK278.out 4).trans rfl; have hcz7_5 : w6.cell? ⟨gb278, 5, none⟩ = some (.int .i64 a0_5) := (blk_cell BK278.out 5).trans rfl; have hcz7_6 : w6.cell? ⟨gb278, 6, none⟩ = some (.int .i64 a0_6) := (blk_cell BK278.out 6).trans rfl; have hcz7_7 : w6.cell? ⟨gb278, 7, none⟩ = some (.int .i64 a0_7) := (blk_cell BK278.out 7).trans rfl; have hcz7_8 : w6.cell? ⟨gb278, 8, none⟩ = some (.int .i64 a0_8) := (blk_cell BK278.out 8).trans rfl; have hcz7_9 : w6.cell? ⟨gb278, 9, none⟩ = some (.int .i64 a0_9) := (blk_cell BK278.out 9).trans rfl; have hcz7_10 : w6.cell? ⟨gb278, 10, none⟩ = some (.int .i64 a0_10) := (blk_cell BK278.out 10).trans rfl; have hfz7_0 := blk_frozen BK278.out 0; have hfz7_1 := blk_frozen BK278.out 1; have hfz7_2 := blk_frozen BK278.out 2; have hfz7_3 := blk_frozen BK278.out 3; have hfz7_4 := blk_frozen BK278.out 4; have hfz7_5 := blk_frozen BK278.out 5; have hfz7_6 := blk_frozen BK278.out 6; have hfz7_7 := blk_frozen BK278.out 7; have hfz7_8 := blk_frozen BK278.out 8; have hfz7_9 := blk_frozen BK278.out 9; have hfz7_10 := blk_frozen BK278.out 10))
      go_ret
      exact ⟨by first | rfl | (simp [errW_none, errW_some] <;> rfl) | (simp [*, errW_none, errW_some] <;> rfl), by repeat (first | (with_reducible first | exact HB.out | apply below_alloc | apply pw_below_drewN | apply below_drew1 | refine below_set ?_ GE278.out) | exact HB.out)⟩
  · rw [if_neg c2] at H
    have c2b0 : (a0_1 == 4) = false := beq_eq_false_iff_ne.mpr c2
    have c2b1 : (a0_1 != 4) = true := bne_iff_ne.mpr c2
    obtain rfl := Option.some.inj H
    go_enter Try.func50, Try.ntmps50
    go_wp2_with (first | ((with_reducible refine gate_dst (N := 1) rfl ?_); refine box_event ?hg (N := 1) ?hd (cs := #[.int .i64 a0_0, .int .i64 a0_1, .int .i64 a0_2, .int .i64 a0_3, .int .i64 a0_4, .int .i64 a0_5, .int .i64 a0_6, .int .i64 a0_7, .int .i64 a0_8, .int .i64 a0_9, .int .i64 a0_10]) (t := 42) ?hr ?_; (case hd => rfl); (case hg => rfl); (case hr => first | (go_simp; done) | (go_simp; rfl)); intro gb278 hg w8 hbox hb; have n0_ := Aside0.mk (below_step (by repeat (first | (with_reducible first | exact HB.out | apply below_alloc | apply pw_below_drewN | apply below_drew1) | exact HB.out)) hb); have n1_ := Aside0.mk (hbox); have n2_ := Aside0.mk ((by rw [hg]; exact (below_size (by repeat (first | (with_reducible first | exact HB.out | apply below_alloc | apply pw_below_drewN | apply below_drew1) | exact HB.out))) : w.heap.size ≤ gb278)); have n3_ := Aside0.mk ((by rw [hg]; exact (below_size (by repeat (first | (with_reducible first | exact HB.out | apply below_alloc | apply pw_below_drewN | apply below_drew1) | exact HB.out))) : w.heap.size ≤ gb278)); clear HB; have HB := n0_; have BK278 := n1_; have GW278 := n2_; have GE278 := n3_; clear n0_ n1_ n2_ n3_; clear hb hbox hg; have hcz9_0 : w8.cell? ⟨gb278, 0, none⟩ = some (.int .i64 a0_0) := (blk_cell BK278.out 0).trans rfl; have hcz9_1 : w8.cell? ⟨gb278, 1, none⟩ = some (.int .i64 a0_1) := (blk_cell BK278.out 1).trans rfl; have hcz9_2 : w8.cell? ⟨gb278, 2, none⟩ = some (.int .i64 a0_2) := (blk_cell BK278.out 2).trans rfl; have hcz9_3 : w8.cell? ⟨gb278, 3, none⟩ = some (.int .i64 a0_3) := (blk_cell BK278.out 3).trans rfl; have hcz9_4 : w8.cell? ⟨gb278, 4, none⟩ = some (.int .i64 a0_4) := (blk_cell BK278.out 4).trans rfl; have hcz9_5 : w8.cell? ⟨gb278, 5, none⟩ = some (.int .i64 a0_5) := (blk_cell BK278.out 5).trans rfl; have hcz9_6 : w8.cell? ⟨gb278, 6, none⟩ = some (.int .i64 a0_6) := (blk_cell BK278.out 6).trans rfl; have hcz9_7 : w8.cell? ⟨gb278, 7, none⟩ = some (.int .i64 a0_7) := (blk_cell BK278.out 7).trans rfl; have hcz9_8 : w8.cell? ⟨gb278, 8, none⟩ = some (.int .i64 a0_8) := (blk_cell BK278.out 8).trans rfl; have hcz9_9 : w8.cell? ⟨gb278, 9, none⟩ = some (.int .i64 a0_9) := (blk_cell BK278.out 9).trans rfl; have hcz9_10 : w8.cell? ⟨gb278, 10, none⟩ = some (.int .i64 a0_10) := (blk_cell BK278.out 10).trans rfl; have hfz9_0 := blk_frozen BK278.out 0; have hfz9_1 := blk_frozen BK278.out 1; have hfz9_2 := blk_frozen BK278.out 2; have hfz9_3 := blk_frozen BK278.out 3; have hfz9_4 := blk_frozen BK278.out 4; have hfz9_5 := blk_frozen BK278.out 5; have hfz9_6 := blk_frozen BK278.out 6; have hfz9_7 := blk_frozen BK278.out 7; have hfz9_8 := blk_frozen BK278.out 8; have hfz9_9 := blk_frozen BK278.out 9; have hfz9_10 := blk_frozen BK278.out 10))
    go_ret
    exact ⟨by first | rfl | (simp [errW_none, errW_some] <;> rfl) | (simp [*, errW_none, errW_some] <;> rfl), by repeat (first | (with_reducible first | exact HB.out | apply below_alloc | apply pw_below_drewN | apply below_drew1 | refine below_set ?_ GE278.out) | exact HB.out)⟩

/-! ### gatelineref09_Is: function 41 -/
mutual
def gatelineref09_Is.j0 : Nat → Bool → Int → Int → Int → Int → Int → Int → Int → Int → Int → Int → Int → Option (Bool)
  | 0, _, _, _, _, _, _, _, _, _, _, _, _ => none
  | k + 1, x50, x280000, x280001, x280002, x280003, x280004, x280005, x280006, x280007, x280008, x280009, x280010 => if x50 = true then (some false) else (if x280007 < 0 then (gatelineref09_Is.j1 k true x280000 x280001 x280002 x280003 x280004 x280005 x280006 x280007 x280008 x280009 x280010) else (if x280007 > 99999 then (gatelineref09_Is.j1 k true x280000 x280001 x280002 x280003 x280004 x280005 x280006 x280007 x280008 x280009 x280010) else (if x280008 < 1 then (gatelineref09_Is.j1 k true x280000 x280001 x280002 x280003 x280004 x280005 x280006 x280007 x280008 x280009 x280010) else (if x280008 > 999 then (gatelineref09_Is.j1 k true x280000 x280001 x280002 x280003 x280004 x280005 x280006 x280007 x280008 x280009 x280010) else (if (wrap64 (x280007 + x280008)) > 100000 then (gatelineref09_Is.j1 k true x280000 x280001 x280002 x280003 x280004 x280005 x280006 x280007 x280008 x280009 x280010) else (if x280010 < 0 then (gatelineref09_Is.j1 k true x280000 x280001 x280002 x280003 x280004 x280005 x280006 x280007 x280008 x280009 x280010) else (gatelineref09_Is.j1 k (decide (x280010 > 9)) x280000 x280001 x280002 x280003 x280004 x280005 x280006 x280007 x280008 x280009 x280010)))))))
def gatelineref09_Is.j1 : Nat → Bool → Int → Int → Int → Int → Int → Int → Int → Int → Int → Int → Int → Option (Bool)
  | 0, _, _, _, _, _, _, _, _, _, _, _, _ => none
  | k + 1, x86, x280000, x280001, x280002, x280003, x280004, x280005, x280006, x280007, x280008, x280009, x280010 => if x86 = true then (some false) else ((gatelineref09_place.f x280000 x280001 x280002 x280003 x280004 x280005 x280006 x280007 x280008 x280009 x280010).bind fun t280 => (if t280 = true then ((gatelineref09_uses.f x280000 x280001 x280002 x280003 x280004 x280005 x280006 x280007 x280008 x280009 x280010).bind fun t281 => (some t281)) else (some false)))
end
def gatelineref09_Is.f (k : Nat) (a0_0 : Int) (a0_1 : Int) (a0_2 : Int) (a0_3 : Int) (a0_4 : Int) (a0_5 : Int) (a0_6 : Int) (a0_7 : Int) (a0_8 : Int) (a0_9 : Int) (a0_10 : Int) : Option (Bool) := if a0_0 < 1 then (gatelineref09_Is.j0 k true a0_0 a0_1 a0_2 a0_3 a0_4 a0_5 a0_6 a0_7 a0_8 a0_9 a0_10) else (if a0_0 > 1099511627776 then (gatelineref09_Is.j0 k true a0_0 a0_1 a0_2 a0_3 a0_4 a0_5 a0_6 a0_7 a0_8 a0_9 a0_10) else (if a0_1 < 1 then (gatelineref09_Is.j0 k true a0_0 a0_1 a0_2 a0_3 a0_4 a0_5 a0_6 a0_7 a0_8 a0_9 a0_10) else (if a0_1 > 4 then (gatelineref09_Is.j0 k true a0_0 a0_1 a0_2 a0_3 a0_4 a0_5 a0_6 a0_7 a0_8 a0_9 a0_10) else (if a0_4 < 1 then (gatelineref09_Is.j0 k true a0_0 a0_1 a0_2 a0_3 a0_4 a0_5 a0_6 a0_7 a0_8 a0_9 a0_10) else (if a0_4 > 2 then (gatelineref09_Is.j0 k true a0_0 a0_1 a0_2 a0_3 a0_4 a0_5 a0_6 a0_7 a0_8 a0_9 a0_10) else (if a0_5 < 0 then (gatelineref09_Is.j0 k true a0_0 a0_1 a0_2 a0_3 a0_4 a0_5 a0_6 a0_7 a0_8 a0_9 a0_10) else (if a0_5 > 3 then (gatelineref09_Is.j0 k true a0_0 a0_1 a0_2 a0_3 a0_4 a0_5 a0_6 a0_7 a0_8 a0_9 a0_10) else (if a0_6 < 0 then (gatelineref09_Is.j0 k true a0_0 a0_1 a0_2 a0_3 a0_4 a0_5 a0_6 a0_7 a0_8 a0_9 a0_10) else (gatelineref09_Is.j0 k (decide (a0_6 > 999)) a0_0 a0_1 a0_2 a0_3 a0_4 a0_5 a0_6 a0_7 a0_8 a0_9 a0_10)))))))))
theorem gatelineref09_Is.mono_l : ∀ k, (∀ y0 y1 y2 y3 y4 y5 y6 y7 y8 y9 y10 y11, LeO (gatelineref09_Is.j0 k y0 y1 y2 y3 y4 y5 y6 y7 y8 y9 y10 y11) (gatelineref09_Is.j0 (k + 1) y0 y1 y2 y3 y4 y5 y6 y7 y8 y9 y10 y11)) ∧ (∀ y0 y1 y2 y3 y4 y5 y6 y7 y8 y9 y10 y11, LeO (gatelineref09_Is.j1 k y0 y1 y2 y3 y4 y5 y6 y7 y8 y9 y10 y11) (gatelineref09_Is.j1 (k + 1) y0 y1 y2 y3 y4 y5 y6 y7 y8 y9 y10 y11))
  | 0 => ⟨fun _ _ _ _ _ _ _ _ _ _ _ _ r h => by simp [gatelineref09_Is.j0] at h, fun _ _ _ _ _ _ _ _ _ _ _ _ r h => by simp [gatelineref09_Is.j1] at h⟩
  | k + 1 => by
    obtain ⟨ih0, ih1⟩ := gatelineref09_Is.mono_l k
    refine ⟨?_, ?_⟩
    · intro y0 y1 y2 y3 y4 y5 y6 y7 y8 y9 y10 y11
      unfold gatelineref09_Is.j0
      repeat' first
      | (with_reducible exact ih0 _ _ _ _ _ _ _ _ _ _ _ _)
      | (with_reducible exact ih1 _ _ _ _ _ _ _ _ _ _ _ _)
      | (with_reducible exact LeO.refl _)
      | (with_reducible exact LeO.none _)
      | (with_reducible refine LeO.ite ?_ ?_)
      | (with_reducible refine LeO.bind ?_ (fun _ => ?_))
      | exact ih0 _ _ _ _ _ _ _ _ _ _ _ _
      | exact ih1 _ _ _ _ _ _ _ _ _ _ _ _
      | exact LeO.none _
      | refine LeO.ite ?_ ?_
      | refine LeO.bind ?_ (fun _ => ?_)
    · intro y0 y1 y2 y3 y4 y5 y6 y7 y8 y9 y10 y11
      unfold gatelineref09_Is.j1
      repeat' first
      | (with_reducible exact ih0 _ _ _ _ _ _ _ _ _ _ _ _)
      | (with_reducible exact ih1 _ _ _ _ _ _ _ _ _ _ _ _)
      | (with_reducible exact LeO.refl _)
      | (with_reducible exact LeO.none _)
      | (with_reducible refine LeO.ite ?_ ?_)
      | (with_reducible refine LeO.bind ?_ (fun _ => ?_))
      | exact ih0 _ _ _ _ _ _ _ _ _ _ _ _
      | exact ih1 _ _ _ _ _ _ _ _ _ _ _ _
      | exact LeO.none _
      | refine LeO.ite ?_ ?_
      | refine LeO.bind ?_ (fun _ => ?_)
theorem gatelineref09_Is.mono : ∀ a0 a1 a2 a3 a4 a5 a6 a7 a8 a9 a10 k, LeO (gatelineref09_Is.f k a0 a1 a2 a3 a4 a5 a6 a7 a8 a9 a10) (gatelineref09_Is.f (k + 1) a0 a1 a2 a3 a4 a5 a6 a7 a8 a9 a10) := by
  intro a0 a1 a2 a3 a4 a5 a6 a7 a8 a9 a10 k
  obtain ⟨ih0, ih1⟩ := gatelineref09_Is.mono_l k
  unfold gatelineref09_Is.f
  repeat' first
      | (with_reducible exact ih0 _ _ _ _ _ _ _ _ _ _ _ _)
      | (with_reducible exact ih1 _ _ _ _ _ _ _ _ _ _ _ _)
      | (with_reducible exact LeO.refl _)
      | (with_reducible exact LeO.none _)
      | (with_reducible refine LeO.ite ?_ ?_)
      | (with_reducible refine LeO.bind ?_ (fun _ => ?_))
      | exact ih0 _ _ _ _ _ _ _ _ _ _ _ _
      | exact ih1 _ _ _ _ _ _ _ _ _ _ _ _
      | exact LeO.none _
      | refine LeO.ite ?_ ?_
      | refine LeO.bind ?_ (fun _ => ?_)
set_option maxHeartbeats 8000000 in
set_option maxRecDepth 100000 in
theorem gatelineref09_Is.calls (k : Nat) (a0_0 : Int) (a0_1 : Int) (a0_2 : Int) (a0_3 : Int) (a0_4 : Int) (a0_5 : Int) (a0_6 : Int) (a0_7 : Int) (a0_8 : Int) (a0_9 : Int) (a0_10 : Int) (r : Bool) (w : World) (h : gatelineref09_Is.f k a0_0 a0_1 a0_2 a0_3 a0_4 a0_5 a0_6 a0_7 a0_8 a0_9 a0_10 = some r) :
    Calls Try.prog 41 #[.agg #[.int .i64 a0_0, .int .i64 a0_1, .int .i64 a0_2, .int .i64 a0_3, .int .i64 a0_4, .int .i64 a0_5, .int .i64 a0_6, .int .i64 a0_7, .int .i64 a0_8, .int .i64 a0_9, .int .i64 a0_10]] w fun e w' => e = .returned (.bool r) ∧ Below w.heap.size w w' := by
  have hu42 := Try.underlying42
  have HB := Aside0.mk (Below.refl w.heap.size w)
  have H : (if a0_0 < 1 then (gatelineref09_Is.j0 k true a0_0 a0_1 a0_2 a0_3 a0_4 a0_5 a0_6 a0_7 a0_8 a0_9 a0_10) else (if a0_0 > 1099511627776 then (gatelineref09_Is.j0 k true a0_0 a0_1 a0_2 a0_3 a0_4 a0_5 a0_6 a0_7 a0_8 a0_9 a0_10) else (if a0_1 < 1 then (gatelineref09_Is.j0 k true a0_0 a0_1 a0_2 a0_3 a0_4 a0_5 a0_6 a0_7 a0_8 a0_9 a0_10) else (if a0_1 > 4 then (gatelineref09_Is.j0 k true a0_0 a0_1 a0_2 a0_3 a0_4 a0_5 a0_6 a0_7 a0_8 a0_9 a0_10) else (if a0_4 < 1 then (gatelineref09_Is.j0 k true a0_0 a0_1 a0_2 a0_3 a0_4 a0_5 a0_6 a0_7 a0_8 a0_9 a0_10) else (if a0_4 > 2 then (gatelineref09_Is.j0 k true a0_0 a0_1 a0_2 a0_3 a0_4 a0_5 a0_6 a0_7 a0_8 a0_9 a0_10) else (if a0_5 < 0 then (gatelineref09_Is.j0 k true a0_0 a0_1 a0_2 a0_3 a0_4 a0_5 a0_6 a0_7 a0_8 a0_9 a0_10) else (if a0_5 > 3 then (gatelineref09_Is.j0 k true a0_0 a0_1 a0_2 a0_3 a0_4 a0_5 a0_6 a0_7 a0_8 a0_9 a0_10) else (if a0_6 < 0 then (gatelineref09_Is.j0 k true a0_0 a0_1 a0_2 a0_3 a0_4 a0_5 a0_6 a0_7 a0_8 a0_9 a0_10) else (gatelineref09_Is.j0 k (decide (a0_6 > 999)) a0_0 a0_1 a0_2 a0_3 a0_4 a0_5 a0_6 a0_7 a0_8 a0_9 a0_10)))))))))) = some r := h
  clear h
  have HC2 := Aside0.mk H
  clear H
  go_enter Try.func41, Try.ntmps41
  go_upto_region 1 with (first | ((with_reducible refine gate_dst (N := 1) rfl ?_); refine box_event ?hg (N := 1) ?hd (cs := #[.int .i64 a0_0, .int .i64 a0_1, .int .i64 a0_2, .int .i64 a0_3, .int .i64 a0_4, .int .i64 a0_5, .int .i64 a0_6, .int .i64 a0_7, .int .i64 a0_8, .int .i64 a0_9, .int .i64 a0_10]) (t := 42) ?hr ?_; (case hd => rfl); (case hg => rfl); (case hr => first | (go_simp; done) | (go_simp; rfl)); intro gb279 hg w3 hbox hb; have n0_ := Aside0.mk (below_step (by repeat (first | (with_reducible first | exact HB.out | apply below_alloc | apply pw_below_drewN | apply below_drew1) | exact HB.out)) hb); have n1_ := Aside0.mk (hbox); have n2_ := Aside0.mk ((by rw [hg]; exact (below_size (by repeat (first | (with_reducible first | exact HB.out | apply below_alloc | apply pw_below_drewN | apply below_drew1) | exact HB.out))) : w.heap.size ≤ gb279)); have n3_ := Aside0.mk ((by rw [hg]; exact (below_size (by repeat (first | (with_reducible first | exact HB.out | apply below_alloc | apply pw_below_drewN | apply below_drew1) | exact HB.out))) : w.heap.size ≤ gb279)); clear HB; have HB := n0_; have BK279 := n1_; have GW279 := n2_; have GE279 := n3_; clear n0_ n1_ n2_ n3_; clear hb hbox hg))
  (try simp only [Act.put, List.setIfInBounds_toArray, List.set_cons_zero, List.set_cons_succ])
  go_cut [50] (fun v50 wc => ∃ (kq : Nat) (x50_1 : Bool), v50 = .bool x50_1 ∧ Aside0 (gatelineref09_Is.j0 kq x50_1 a0_0 a0_1 a0_2 a0_3 a0_4 a0_5 a0_6 a0_7 a0_8 a0_9 a0_10 = some r) ∧ Aside0 (kq ≤ k) ∧ Aside0 (wc.heap[gb279]? = some (.cells #[.int .i64 a0_0, .int .i64 a0_1, .int .i64 a0_2, .int .i64 a0_3, .int .i64 a0_4, .int .i64 a0_5, .int .i64 a0_6, .int .i64 a0_7, .int .i64 a0_8, .int .i64 a0_9, .int .i64 a0_10] 42 (0, 0))) ∧ Aside0 (Below w.heap.size w wc))
  case first =>
    have H := HC2.out
    clear HC2
    by_cases c4 : a0_0 < 1
    · rw [if_pos c4] at H
      have c4b0 : decide (a0_0 < 1) = true := decide_eq_true c4
      clear c4
      (first | rw [c4b0] | (simp only [i64_w, i32_w]; rw [c4b0]) | skip)
      have H' := Aside0.mk H
      clear H
      have hcz5_0 : w3.cell? ⟨gb279, 0, none⟩ = some (.int .i64 a0_0) := (blk_cell BK279.out 0).trans rfl
      have hcz5_1 : w3.cell? ⟨gb279, 1, none⟩ = some (.int .i64 a0_1) := (blk_cell BK279.out 1).trans rfl
      have hcz5_2 : w3.cell? ⟨gb279, 2, none⟩ = some (.int .i64 a0_2) := (blk_cell BK279.out 2).trans rfl
      have hcz5_3 : w3.cell? ⟨gb279, 3, none⟩ = some (.int .i64 a0_3) := (blk_cell BK279.out 3).trans rfl
      have hcz5_4 : w3.cell? ⟨gb279, 4, none⟩ = some (.int .i64 a0_4) := (blk_cell BK279.out 4).trans rfl
      have hcz5_5 : w3.cell? ⟨gb279, 5, none⟩ = some (.int .i64 a0_5) := (blk_cell BK279.out 5).trans rfl
      have hcz5_6 : w3.cell? ⟨gb279, 6, none⟩ = some (.int .i64 a0_6) := (blk_cell BK279.out 6).trans rfl
      have hcz5_7 : w3.cell? ⟨gb279, 7, none⟩ = some (.int .i64 a0_7) := (blk_cell BK279.out 7).trans rfl
      have hcz5_8 : w3.cell? ⟨gb279, 8, none⟩ = some (.int .i64 a0_8) := (blk_cell BK279.out 8).trans rfl
      have hcz5_9 : w3.cell? ⟨gb279, 9, none⟩ = some (.int .i64 a0_9) := (blk_cell BK279.out 9).trans rfl
      have hcz5_10 : w3.cell? ⟨gb279, 10, none⟩ = some (.int .i64 a0_10) := (blk_cell BK279.out 10).trans rfl
      have hfz5_0 := blk_frozen BK279.out 0
      have hfz5_1 := blk_frozen BK279.out 1
      have hfz5_2 := blk_frozen BK279.out 2
      have hfz5_3 := blk_frozen BK279.out 3
      have hfz5_4 := blk_frozen BK279.out 4
      have hfz5_5 := blk_frozen BK279.out 5
      have hfz5_6 := blk_frozen BK279.out 6
      have hfz5_7 := blk_frozen BK279.out 7
      have hfz5_8 := blk_frozen BK279.out 8
      have hfz5_9 := blk_frozen BK279.out 9
      have hfz5_10 := blk_frozen BK279.out 10
      go_wp2
      go_meet
      case rel => exact ⟨_, (true), (by first | rfl | (simp; done) | (simp [*]; done)), H', ⟨by first | omega | exact Nat.le_refl _⟩, ⟨by (with_reducible repeat (first | refine blk_drewN ?_ _ | refine blk_drew ?_ | refine blk_alloc ?_ _)); exact BK279.out⟩, ⟨by repeat (first | (with_reducible first | exact HB.out | apply below_alloc | apply pw_below_drewN | apply below_drew1 | refine below_set ?_ GE279.out) | exact HB.out)⟩⟩
    · rw [if_neg c4] at H
      have c4b0 : decide (a0_0 < 1) = false := decide_eq_false c4
      clear c4
      (first | rw [c4b0] | (simp only [i64_w, i32_w]; rw [c4b0]) | skip)
      by_cases c6 : a0_0 > 1099511627776
      · rw [if_pos c6] at H
        have c6b0 : decide (1099511627776 < a0_0) = true := decide_eq_true c6
        clear c6
        have H' := Aside0.mk H
        clear H
        have hcz7_0 : w3.cell? ⟨gb279, 0, none⟩ = some (.int .i64 a0_0) := (blk_cell BK279.out 0).trans rfl
        have hcz7_1 : w3.cell? ⟨gb279, 1, none⟩ = some (.int .i64 a0_1) := (blk_cell BK279.out 1).trans rfl
        have hcz7_2 : w3.cell? ⟨gb279, 2, none⟩ = some (.int .i64 a0_2) := (blk_cell BK279.out 2).trans rfl
        have hcz7_3 : w3.cell? ⟨gb279, 3, none⟩ = some (.int .i64 a0_3) := (blk_cell BK279.out 3).trans rfl
        have hcz7_4 : w3.cell? ⟨gb279, 4, none⟩ = some (.int .i64 a0_4) := (blk_cell BK279.out 4).trans rfl
        have hcz7_5 : w3.cell? ⟨gb279, 5, none⟩ = some (.int .i64 a0_5) := (blk_cell BK279.out 5).trans rfl
        have hcz7_6 : w3.cell? ⟨gb279, 6, none⟩ = some (.int .i64 a0_6) := (blk_cell BK279.out 6).trans rfl
        have hcz7_7 : w3.cell? ⟨gb279, 7, none⟩ = some (.int .i64 a0_7) := (blk_cell BK279.out 7).trans rfl
        have hcz7_8 : w3.cell? ⟨gb279, 8, none⟩ = some (.int .i64 a0_8) := (blk_cell BK279.out 8).trans rfl
        have hcz7_9 : w3.cell? ⟨gb279, 9, none⟩ = some (.int .i64 a0_9) := (blk_cell BK279.out 9).trans rfl
        have hcz7_10 : w3.cell? ⟨gb279, 10, none⟩ = some (.int .i64 a0_10) := (blk_cell BK279.out 10).trans rfl
        have hfz7_0 := blk_frozen BK279.out 0
        have hfz7_1 := blk_frozen BK279.out 1
        have hfz7_2 := blk_frozen BK279.out 2
        have hfz7_3 := blk_frozen BK279.out 3
        have hfz7_4 := blk_frozen BK279.out 4
        have hfz7_5 := blk_frozen BK279.out 5
        have hfz7_6 := blk_frozen BK279.out 6
        have hfz7_7 := blk_frozen BK279.out 7
        have hfz7_8 := blk_frozen BK279.out 8
        have hfz7_9 := blk_frozen BK279.out 9
        have hfz7_10 := blk_frozen BK279.out 10
        go_wp2
        go_meet
        case rel => exact ⟨_, (true), (by first | rfl | (simp; done) | (simp [*]; done)), H', ⟨by first | omega | exact Nat.le_refl _⟩, ⟨by (with_reducible repeat (first | refine blk_drewN ?_ _ | refine blk_drew ?_ | refine blk_alloc ?_ _)); exact BK279.out⟩, ⟨by repeat (first | (with_reducible first | exact HB.out | apply below_alloc | apply pw_below_drewN | apply below_drew1 | refine below_set ?_ GE279.out) | exact HB.out)⟩⟩
      · rw [if_neg c6] at H
        have c6b0 : decide (1099511627776 < a0_0) = false := decide_eq_false c6
        clear c6
        by_cases c8 : a0_1 < 1
        · rw [if_pos c8] at H
          have c8b0 : decide (a0_1 < 1) = true := decide_eq_true c8
          clear c8
          have H' := Aside0.mk H
          clear H
          have hcz9_0 : w3.cell? ⟨gb279, 0, none⟩ = some (.int .i64 a0_0) := (blk_cell BK279.out 0).trans rfl
          have hcz9_1 : w3.cell? ⟨gb279, 1, none⟩ = some (.int .i64 a0_1) := (blk_cell BK279.out 1).trans rfl
          have hcz9_2 : w3.cell? ⟨gb279, 2, none⟩ = some (.int .i64 a0_2) := (blk_cell BK279.out 2).trans rfl
          have hcz9_3 : w3.cell? ⟨gb279, 3, none⟩ = some (.int .i64 a0_3) := (blk_cell BK279.out 3).trans rfl
          have hcz9_4 : w3.cell? ⟨gb279, 4, none⟩ = some (.int .i64 a0_4) := (blk_cell BK279.out 4).trans rfl
          have hcz9_5 : w3.cell? ⟨gb279, 5, none⟩ = some (.int .i64 a0_5) := (blk_cell BK279.out 5).trans rfl
          have hcz9_6 : w3.cell? ⟨gb279, 6, none⟩ = some (.int .i64 a0_6) := (blk_cell BK279.out 6).trans rfl
          have hcz9_7 : w3.cell? ⟨gb279, 7, none⟩ = some (.int .i64 a0_7) := (blk_cell BK279.out 7).trans rfl
          have hcz9_8 : w3.cell? ⟨gb279, 8, none⟩ = some (.int .i64 a0_8) := (blk_cell BK279.out 8).trans rfl
          have hcz9_9 : w3.cell? ⟨gb279, 9, none⟩ = some (.int .i64 a0_9) := (blk_cell BK279.out 9).trans rfl
          have hcz9_10 : w3.cell? ⟨gb279, 10, none⟩ = some (.int .i64 a0_10) := (blk_cell BK279.out 10).trans rfl
          have hfz9_0 := blk_frozen BK279.out 0
          have hfz9_1 := blk_frozen BK279.out 1
          have hfz9_2 := blk_frozen BK279.out 2
          have hfz9_3 := blk_frozen BK279.out 3
          have hfz9_4 := blk_frozen BK279.out 4
          have hfz9_5 := blk_frozen BK279.out 5
          have hfz9_6 := blk_frozen BK279.out 6
          have hfz9_7 := blk_frozen BK279.out 7
          have hfz9_8 := blk_frozen BK279.out 8
          have hfz9_9 := blk_frozen BK279.out 9
          have hfz9_10 := blk_frozen BK279.out 10
          go_wp2
          go_meet
          case rel => exact ⟨_, (true), (by first | rfl | (simp; done) | (simp [*]; done)), H', ⟨by first | omega | exact Nat.le_refl _⟩, ⟨by (with_reducible repeat (first | refine blk_drewN ?_ _ | refine blk_drew ?_ | refine blk_alloc ?_ _)); exact BK279.out⟩, ⟨by repeat (first | (with_reducible first | exact HB.out | apply below_alloc | apply pw_below_drewN | apply below_drew1 | refine below_set ?_ GE279.out) | exact HB.out)⟩⟩
        · rw [if_neg c8] at H
          have c8b0 : decide (a0_1 < 1) = false := decide_eq_false c8
          clear c8
          by_cases c10 : a0_1 > 4
          · rw [if_pos c10] at H
            have c10b0 : decide (4 < a0_1) = true := decide_eq_true c10
            clear c10
            have H' := Aside0.mk H
            clear H
            have hcz11_0 : w3.cell? ⟨gb279, 0, none⟩ = some (.int .i64 a0_0) := (blk_cell BK279.out 0).trans rfl
            have hcz11_1 : w3.cell? ⟨gb279, 1, none⟩ = some (.int .i64 a0_1) := (blk_cell BK279.out 1).trans rfl
            have hcz11_2 : w3.cell? ⟨gb279, 2, none⟩ = some (.int .i64 a0_2) := (blk_cell BK279.out 2).trans rfl
            have hcz11_3 : w3.cell? ⟨gb279, 3, none⟩ = some (.int .i64 a0_3) := (blk_cell BK279.out 3).trans rfl
            have hcz11_4 : w3.cell? ⟨gb279, 4, none⟩ = some (.int .i64 a0_4) := (blk_cell BK279.out 4).trans rfl
            have hcz11_5 : w3.cell? ⟨gb279, 5, none⟩ = some (.int .i64 a0_5) := (blk_cell BK279.out 5).trans rfl
            have hcz11_6 : w3.cell? ⟨gb279, 6, none⟩ = some (.int .i64 a0_6) := (blk_cell BK279.out 6).trans rfl
            have hcz11_7 : w3.cell? ⟨gb279, 7, none⟩ = some (.int .i64 a0_7) := (blk_cell BK279.out 7).trans rfl
            have hcz11_8 : w3.cell? ⟨gb279, 8, none⟩ = some (.int .i64 a0_8) := (blk_cell BK279.out 8).trans rfl
            have hcz11_9 : w3.cell? ⟨gb279, 9, none⟩ = some (.int .i64 a0_9) := (blk_cell BK279.out 9).trans rfl
            have hcz11_10 : w3.cell? ⟨gb279, 10, none⟩ = some (.int .i64 a0_10) := (blk_cell BK279.out 10).trans rfl
            have hfz11_0 := blk_frozen BK279.out 0
            have hfz11_1 := blk_frozen BK279.out 1
            have hfz11_2 := blk_frozen BK279.out 2
            have hfz11_3 := blk_frozen BK279.out 3
            have hfz11_4 := blk_frozen BK279.out 4
            have hfz11_5 := blk_frozen BK279.out 5
            have hfz11_6 := blk_frozen BK279.out 6
            have hfz11_7 := blk_frozen BK279.out 7
            have hfz11_8 := blk_frozen BK279.out 8
            have hfz11_9 := blk_frozen BK279.out 9
            have hfz11_10 := blk_frozen BK279.out 10
            go_wp2
            go_meet
            case rel => exact ⟨_, (true), (by first | rfl | (simp; done) | (simp [*]; done)), H', ⟨by first | omega | exact Nat.le_refl _⟩, ⟨by (with_reducible repeat (first | refine blk_drewN ?_ _ | refine blk_drew ?_ | refine blk_alloc ?_ _)); exact BK279.out⟩, ⟨by repeat (first | (with_reducible first | exact HB.out | apply below_alloc | apply pw_below_drewN | apply below_drew1 | refine below_set ?_ GE279.out) | exact HB.out)⟩⟩
          · rw [if_neg c10] at H
            have c10b0 : decide (4 < a0_1) = false := decide_eq_false c10
            clear c10
            by_cases c12 : a0_4 < 1
            · rw [if_pos c12] at H
              have c12b0 : decide (a0_4 < 1) = true := decide_eq_true c12
              clear c12
              have H' := Aside0.mk H
              clear H
              have hcz13_0 : w3.cell? ⟨gb279, 0, none⟩ = some (.int .i64 a0_0) := (blk_cell BK279.out 0).trans rfl
              have hcz13_1 : w3.cell? ⟨gb279, 1, none⟩ = some (.int .i64 a0_1) := (blk_cell BK279.out 1).trans rfl
              have hcz13_2 : w3.cell? ⟨gb279, 2, none⟩ = some (.int .i64 a0_2) := (blk_cell BK279.out 2).trans rfl
              have hcz13_3 : w3.cell? ⟨gb279, 3, none⟩ = some (.int .i64 a0_3) := (blk_cell BK279.out 3).trans rfl
              have hcz13_4 : w3.cell? ⟨gb279, 4, none⟩ = some (.int .i64 a0_4) := (blk_cell BK279.out 4).trans rfl
              have hcz13_5 : w3.cell? ⟨gb279, 5, none⟩ = some (.int .i64 a0_5) := (blk_cell BK279.out 5).trans rfl
              have hcz13_6 : w3.cell? ⟨gb279, 6, none⟩ = some (.int .i64 a0_6) := (blk_cell BK279.out 6).trans rfl
              have hcz13_7 : w3.cell? ⟨gb279, 7, none⟩ = some (.int .i64 a0_7) := (blk_cell BK279.out 7).trans rfl
              have hcz13_8 : w3.cell? ⟨gb279, 8, none⟩ = some (.int .i64 a0_8) := (blk_cell BK279.out 8).trans rfl
              have hcz13_9 : w3.cell? ⟨gb279, 9, none⟩ = some (.int .i64 a0_9) := (blk_cell BK279.out 9).trans rfl
              have hcz13_10 : w3.cell? ⟨gb279, 10, none⟩ = some (.int .i64 a0_10) := (blk_cell BK279.out 10).trans rfl
              have hfz13_0 := blk_frozen BK279.out 0
              have hfz13_1 := blk_frozen BK279.out 1
              have hfz13_2 := blk_frozen BK279.out 2
              have hfz13_3 := blk_frozen BK279.out 3
              have hfz13_4 := blk_frozen BK279.out 4
              have hfz13_5 := blk_frozen BK279.out 5
              have hfz13_6 := blk_frozen BK279.out 6
              have hfz13_7 := blk_frozen BK279.out 7
              have hfz13_8 := blk_frozen BK279.out 8
              have hfz13_9 := blk_frozen BK279.out 9
              have hfz13_10 := blk_frozen BK279.out 10
              go_wp2
              go_meet
              case rel => exact ⟨_, (true), (by first | rfl | (simp; done) | (simp [*]; done)), H', ⟨by first | omega | exact Nat.le_refl _⟩, ⟨by (with_reducible repeat (first | refine blk_drewN ?_ _ | refine blk_drew ?_ | refine blk_alloc ?_ _)); exact BK279.out⟩, ⟨by repeat (first | (with_reducible first | exact HB.out | apply below_alloc | apply pw_below_drewN | apply below_drew1 | refine below_set ?_ GE279.out) | exact HB.out)⟩⟩
            · rw [if_neg c12] at H
              have c12b0 : decide (a0_4 < 1) = false := decide_eq_false c12
              clear c12
              by_cases c14 : a0_4 > 2
              · rw [if_pos c14] at H
                have c14b0 : decide (2 < a0_4) = true := decide_eq_true c14
                clear c14
                have H' := Aside0.mk H
                clear H
                have hcz15_0 : w3.cell? ⟨gb279, 0, none⟩ = some (.int .i64 a0_0) := (blk_cell BK279.out 0).trans rfl
                have hcz15_1 : w3.cell? ⟨gb279, 1, none⟩ = some (.int .i64 a0_1) := (blk_cell BK279.out 1).trans rfl
                have hcz15_2 : w3.cell? ⟨gb279, 2, none⟩ = some (.int .i64 a0_2) := (blk_cell BK279.out 2).trans rfl
                have hcz15_3 : w3.cell? ⟨gb279, 3, none⟩ = some (.int .i64 a0_3) := (blk_cell BK279.out 3).trans rfl
                have hcz15_4 : w3.cell? ⟨gb279, 4, none⟩ = some (.int .i64 a0_4) := (blk_cell BK279.out 4).trans rfl
                have hcz15_5 : w3.cell? ⟨gb279, 5, none⟩ = some (.int .i64 a0_5) := (blk_cell BK279.out 5).trans rfl
                have hcz15_6 : w3.cell? ⟨gb279, 6, none⟩ = some (.int .i64 a0_6) := (blk_cell BK279.out 6).trans rfl
                have hcz15_7 : w3.cell? ⟨gb279, 7, none⟩ = some (.int .i64 a0_7) := (blk_cell BK279.out 7).trans rfl
                have hcz15_8 : w3.cell? ⟨gb279, 8, none⟩ = some (.int .i64 a0_8) := (blk_cell BK279.out 8).trans rfl
                have hcz15_9 : w3.cell? ⟨gb279, 9, none⟩ = some (.int .i64 a0_9) := (blk_cell BK279.out 9).trans rfl
                have hcz15_10 : w3.cell? ⟨gb279, 10, none⟩ = some (.int .i64 a0_10) := (blk_cell BK279.out 10).trans rfl
                have hfz15_0 := blk_frozen BK279.out 0
                have hfz15_1 := blk_frozen BK279.out 1
                have hfz15_2 := blk_frozen BK279.out 2
                have hfz15_3 := blk_frozen BK279.out 3
                have hfz15_4 := blk_frozen BK279.out 4
                have hfz15_5 := blk_frozen BK279.out 5
                have hfz15_6 := blk_frozen BK279.out 6
                have hfz15_7 := blk_frozen BK279.out 7
                have hfz15_8 := blk_frozen BK279.out 8
                have hfz15_9 := blk_frozen BK279.out 9
                have hfz15_10 := blk_frozen BK279.out 10
                go_wp2
                go_meet
                case rel => exact ⟨_, (true), (by first | rfl | (simp; done) | (simp [*]; done)), H', ⟨by first | omega | exact Nat.le_refl _⟩, ⟨by (with_reducible repeat (first | refine blk_drewN ?_ _ | refine blk_drew ?_ | refine blk_alloc ?_ _)); exact BK279.out⟩, ⟨by repeat (first | (with_reducible first | exact HB.out | apply below_alloc | apply pw_below_drewN | apply below_drew1 | refine below_set ?_ GE279.out) | exact HB.out)⟩⟩
              · rw [if_neg c14] at H
                have c14b0 : decide (2 < a0_4) = false := decide_eq_false c14
                clear c14
                by_cases c16 : a0_5 < 0
                · rw [if_pos c16] at H
                  have c16b0 : decide (a0_5 < 0) = true := decide_eq_true c16
                  clear c16
                  have H' := Aside0.mk H
                  clear H
                  have hcz17_0 : w3.cell? ⟨gb279, 0, none⟩ = some (.int .i64 a0_0) := (blk_cell BK279.out 0).trans rfl
                  have hcz17_1 : w3.cell? ⟨gb279, 1, none⟩ = some (.int .i64 a0_1) := (blk_cell BK279.out 1).trans rfl
                  have hcz17_2 : w3.cell? ⟨gb279, 2, none⟩ = some (.int .i64 a0_2) := (blk_cell BK279.out 2).trans rfl
                  have hcz17_3 : w3.cell? ⟨gb279, 3, none⟩ = some (.int .i64 a0_3) := (blk_cell BK279.out 3).trans rfl
                  have hcz17_4 : w3.cell? ⟨gb279, 4, none⟩ = some (.int .i64 a0_4) := (blk_cell BK279.out 4).trans rfl
                  have hcz17_5 : w3.cell? ⟨gb279, 5, none⟩ = some (.int .i64 a0_5) := (blk_cell BK279.out 5).trans rfl
                  have hcz17_6 : w3.cell? ⟨gb279, 6, none⟩ = some (.int .i64 a0_6) := (blk_cell BK279.out 6).trans rfl
                  have hcz17_7 : w3.cell? ⟨gb279, 7, none⟩ = some (.int .i64 a0_7) := (blk_cell BK279.out 7).trans rfl
                  have hcz17_8 : w3.cell? ⟨gb279, 8, none⟩ = some (.int .i64 a0_8) := (blk_cell BK279.out 8).trans rfl
                  have hcz17_9 : w3.cell? ⟨gb279, 9, none⟩ = some (.int .i64 a0_9) := (blk_cell BK279.out 9).trans rfl
                  have hcz17_10 : w3.cell? ⟨gb279, 10, none⟩ = some (.int .i64 a0_10) := (blk_cell BK279.out 10).trans rfl
                  have hfz17_0 := blk_frozen BK279.out 0
                  have hfz17_1 := blk_frozen BK279.out 1
                  have hfz17_2 := blk_frozen BK279.out 2
                  have hfz17_3 := blk_frozen BK279.out 3
                  have hfz17_4 := blk_frozen BK279.out 4
                  have hfz17_5 := blk_frozen BK279.out 5
                  have hfz17_6 := blk_frozen BK279.out 6
                  have hfz17_7 := blk_frozen BK279.out 7
                  have hfz17_8 := blk_frozen BK279.out 8
                  have hfz17_9 := blk_frozen BK279.out 9
                  have hfz17_10 := blk_frozen BK279.out 10
                  go_wp2
                  go_meet
                  case rel => exact ⟨_, (true), (by first | rfl | (simp; done) | (simp [*]; done)), H', ⟨by first | omega | exact Nat.le_refl _⟩, ⟨by (with_reducible repeat (first | refine blk_drewN ?_ _ | refine blk_drew ?_ | refine blk_alloc ?_ _)); exact BK279.out⟩, ⟨by repeat (first | (with_reducible first | exact HB.out | apply below_alloc | apply pw_below_drewN | apply below_drew1 | refine below_set ?_ GE279.out) | exact HB.out)⟩⟩
                · rw [if_neg c16] at H
                  have c16b0 : decide (a0_5 < 0) = false := decide_eq_false c16
                  clear c16
                  by_cases c18 : a0_5 > 3
                  · rw [if_pos c18] at H
                    have c18b0 : decide (3 < a0_5) = true := decide_eq_true c18
                    clear c18
                    have H' := Aside0.mk H
                    clear H
                    have hcz19_0 : w3.cell? ⟨gb279, 0, none⟩ = some (.int .i64 a0_0) := (blk_cell BK279.out 0).trans rfl
                    have hcz19_1 : w3.cell? ⟨gb279, 1, none⟩ = some (.int .i64 a0_1) := (blk_cell BK279.out 1).trans rfl
                    have hcz19_2 : w3.cell? ⟨gb279, 2, none⟩ = some (.int .i64 a0_2) := (blk_cell BK279.out 2).trans rfl
                    have hcz19_3 : w3.cell? ⟨gb279, 3, none⟩ = some (.int .i64 a0_3) := (blk_cell BK279.out 3).trans rfl
                    have hcz19_4 : w3.cell? ⟨gb279, 4, none⟩ = some (.int .i64 a0_4) := (blk_cell BK279.out 4).trans rfl
                    have hcz19_5 : w3.cell? ⟨gb279, 5, none⟩ = some (.int .i64 a0_5) := (blk_cell BK279.out 5).trans rfl
                    have hcz19_6 : w3.cell? ⟨gb279, 6, none⟩ = some (.int .i64 a0_6) := (blk_cell BK279.out 6).trans rfl
                    have hcz19_7 : w3.cell? ⟨gb279, 7, none⟩ = some (.int .i64 a0_7) := (blk_cell BK279.out 7).trans rfl
                    have hcz19_8 : w3.cell? ⟨gb279, 8, none⟩ = some (.int .i64 a0_8) := (blk_cell BK279.out 8).trans rfl
                    have hcz19_9 : w3.cell? ⟨gb279, 9, none⟩ = some (.int .i64 a0_9) := (blk_cell BK279.out 9).trans rfl
                    have hcz19_10 : w3.cell? ⟨gb279, 10, none⟩ = some (.int .i64 a0_10) := (blk_cell BK279.out 10).trans rfl
                    have hfz19_0 := blk_frozen BK279.out 0
                    have hfz19_1 := blk_frozen BK279.out 1
                    have hfz19_2 := blk_frozen BK279.out 2
                    have hfz19_3 := blk_frozen BK279.out 3
                    have hfz19_4 := blk_frozen BK279.out 4
                    have hfz19_5 := blk_frozen BK279.out 5
                    have hfz19_6 := blk_frozen BK279.out 6
                    have hfz19_7 := blk_frozen BK279.out 7
                    have hfz19_8 := blk_frozen BK279.out 8
                    have hfz19_9 := blk_frozen BK279.out 9
                    have hfz19_10 := blk_frozen BK279.out 10
                    go_wp2
                    go_meet
                    case rel => exact ⟨_, (true), (by first | rfl | (simp; done) | (simp [*]; done)), H', ⟨by first | omega | exact Nat.le_refl _⟩, ⟨by (with_reducible repeat (first | refine blk_drewN ?_ _ | refine blk_drew ?_ | refine blk_alloc ?_ _)); exact BK279.out⟩, ⟨by repeat (first | (with_reducible first | exact HB.out | apply below_alloc | apply pw_below_drewN | apply below_drew1 | refine below_set ?_ GE279.out) | exact HB.out)⟩⟩
                  · rw [if_neg c18] at H
                    have c18b0 : decide (3 < a0_5) = false := decide_eq_false c18
                    clear c18
                    by_cases c20 : a0_6 < 0
                    · rw [if_pos c20] at H
                      have c20b0 : decide (a0_6 < 0) = true := decide_eq_true c20
                      clear c20
                      have H' := Aside0.mk H
                      clear H
                      have hcz21_0 : w3.cell? ⟨gb279, 0, none⟩ = some (.int .i64 a0_0) := (blk_cell BK279.out 0).trans rfl
                      have hcz21_1 : w3.cell? ⟨gb279, 1, none⟩ = some (.int .i64 a0_1) := (blk_cell BK279.out 1).trans rfl
                      have hcz21_2 : w3.cell? ⟨gb279, 2, none⟩ = some (.int .i64 a0_2) := (blk_cell BK279.out 2).trans rfl
                      have hcz21_3 : w3.cell? ⟨gb279, 3, none⟩ = some (.int .i64 a0_3) := (blk_cell BK279.out 3).trans rfl
                      have hcz21_4 : w3.cell? ⟨gb279, 4, none⟩ = some (.int .i64 a0_4) := (blk_cell BK279.out 4).trans rfl
                      have hcz21_5 : w3.cell? ⟨gb279, 5, none⟩ = some (.int .i64 a0_5) := (blk_cell BK279.out 5).trans rfl
                      have hcz21_6 : w3.cell? ⟨gb279, 6, none⟩ = some (.int .i64 a0_6) := (blk_cell BK279.out 6).trans rfl
                      have hcz21_7 : w3.cell? ⟨gb279, 7, none⟩ = some (.int .i64 a0_7) := (blk_cell BK279.out 7).trans rfl
                      have hcz21_8 : w3.cell? ⟨gb279, 8, none⟩ = some (.int .i64 a0_8) := (blk_cell BK279.out 8).trans rfl
                      have hcz21_9 : w3.cell? ⟨gb279, 9, none⟩ = some (.int .i64 a0_9) := (blk_cell BK279.out 9).trans rfl
                      have hcz21_10 : w3.cell? ⟨gb279, 10, none⟩ = some (.int .i64 a0_10) := (blk_cell BK279.out 10).trans rfl
                      have hfz21_0 := blk_frozen BK279.out 0
                      have hfz21_1 := blk_frozen BK279.out 1
                      have hfz21_2 := blk_frozen BK279.out 2
                      have hfz21_3 := blk_frozen BK279.out 3
                      have hfz21_4 := blk_frozen BK279.out 4
                      have hfz21_5 := blk_frozen BK279.out 5
                      have hfz21_6 := blk_frozen BK279.out 6
                      have hfz21_7 := blk_frozen BK279.out 7
                      have hfz21_8 := blk_frozen BK279.out 8
                      have hfz21_9 := blk_frozen BK279.out 9
                      have hfz21_10 := blk_frozen BK279.out 10
                      go_wp2
                      go_meet
                      case rel => exact ⟨_, (true), (by first | rfl | (simp; done) | (simp [*]; done)), H', ⟨by first | omega | exact Nat.le_refl _⟩, ⟨by (with_reducible repeat (first | refine blk_drewN ?_ _ | refine blk_drew ?_ | refine blk_alloc ?_ _)); exact BK279.out⟩, ⟨by repeat (first | (with_reducible first | exact HB.out | apply below_alloc | apply pw_below_drewN | apply below_drew1 | refine below_set ?_ GE279.out) | exact HB.out)⟩⟩
                    · rw [if_neg c20] at H
                      have c20b0 : decide (a0_6 < 0) = false := decide_eq_false c20
                      clear c20
                      have H' := Aside0.mk H
                      clear H
                      have hcz22_0 : w3.cell? ⟨gb279, 0, none⟩ = some (.int .i64 a0_0) := (blk_cell BK279.out 0).trans rfl
                      have hcz22_1 : w3.cell? ⟨gb279, 1, none⟩ = some (.int .i64 a0_1) := (blk_cell BK279.out 1).trans rfl
                      have hcz22_2 : w3.cell? ⟨gb279, 2, none⟩ = some (.int .i64 a0_2) := (blk_cell BK279.out 2).trans rfl
                      have hcz22_3 : w3.cell? ⟨gb279, 3, none⟩ = some (.int .i64 a0_3) := (blk_cell BK279.out 3).trans rfl
                      have hcz22_4 : w3.cell? ⟨gb279, 4, none⟩ = some (.int .i64 a0_4) := (blk_cell BK279.out 4).trans rfl
                      have hcz22_5 : w3.cell? ⟨gb279, 5, none⟩ = some (.int .i64 a0_5) := (blk_cell BK279.out 5).trans rfl
                      have hcz22_6 : w3.cell? ⟨gb279, 6, none⟩ = some (.int .i64 a0_6) := (blk_cell BK279.out 6).trans rfl
                      have hcz22_7 : w3.cell? ⟨gb279, 7, none⟩ = some (.int .i64 a0_7) := (blk_cell BK279.out 7).trans rfl
                      have hcz22_8 : w3.cell? ⟨gb279, 8, none⟩ = some (.int .i64 a0_8) := (blk_cell BK279.out 8).trans rfl
                      have hcz22_9 : w3.cell? ⟨gb279, 9, none⟩ = some (.int .i64 a0_9) := (blk_cell BK279.out 9).trans rfl
                      have hcz22_10 : w3.cell? ⟨gb279, 10, none⟩ = some (.int .i64 a0_10) := (blk_cell BK279.out 10).trans rfl
                      have hfz22_0 := blk_frozen BK279.out 0
                      have hfz22_1 := blk_frozen BK279.out 1
                      have hfz22_2 := blk_frozen BK279.out 2
                      have hfz22_3 := blk_frozen BK279.out 3
                      have hfz22_4 := blk_frozen BK279.out 4
                      have hfz22_5 := blk_frozen BK279.out 5
                      have hfz22_6 := blk_frozen BK279.out 6
                      have hfz22_7 := blk_frozen BK279.out 7
                      have hfz22_8 := blk_frozen BK279.out 8
                      have hfz22_9 := blk_frozen BK279.out 9
                      have hfz22_10 := blk_frozen BK279.out 10
                      go_wp2
                      go_meet
                      case rel => exact ⟨_, (decide (a0_6 > 999)), (by first | rfl | (simp; done) | (simp [*]; done)), H', ⟨by first | omega | exact Nat.le_refl _⟩, ⟨by (with_reducible repeat (first | refine blk_drewN ?_ _ | refine blk_drew ?_ | refine blk_alloc ?_ _)); exact BK279.out⟩, ⟨by repeat (first | (with_reducible first | exact HB.out | apply below_alloc | apply pw_below_drewN | apply below_drew1 | refine below_set ?_ GE279.out) | exact HB.out)⟩⟩
  case rest =>
    clear HC2
    try clear c1
    try clear c2
    try clear p2
    try clear c4
    try clear c4b0
    try clear c6
    try clear c6b0
    try clear c8
    try clear c8b0
    try clear c10
    try clear c10b0
    try clear c12
    try clear c12b0
    try clear c14
    try clear c14b0
    try clear c16
    try clear c16b0
    try clear c18
    try clear c18b0
    try clear c20
    try clear c20b0
    try clear hcz11_0
    try clear hcz11_1
    try clear hcz11_10
    try clear hcz11_2
    try clear hcz11_3
    try clear hcz11_4
    try clear hcz11_5
    try clear hcz11_6
    try clear hcz11_7
    try clear hcz11_8
    try clear hcz11_9
    try clear hcz13_0
    try clear hcz13_1
    try clear hcz13_10
    try clear hcz13_2
    try clear hcz13_3
    try clear hcz13_4
    try clear hcz13_5
    try clear hcz13_6
    try clear hcz13_7
    try clear hcz13_8
    try clear hcz13_9
    try clear hcz15_0
    try clear hcz15_1
    try clear hcz15_10
    try clear hcz15_2
    try clear hcz15_3
    try clear hcz15_4
    try clear hcz15_5
    try clear hcz15_6
    try clear hcz15_7
    try clear hcz15_8
    try clear hcz15_9
    try clear hcz17_0
    try clear hcz17_1
    try clear hcz17_10
    try clear hcz17_2
    try clear hcz17_3
    try clear hcz17_4
    try clear hcz17_5
    try clear hcz17_6
    try clear hcz17_7
    try clear hcz17_8
    try clear hcz17_9
    try clear hcz19_0
    try clear hcz19_1
    try clear hcz19_10
    try clear hcz19_2
    try clear hcz19_3
    try clear hcz19_4
    try clear hcz19_5
    try clear hcz19_6
    try clear hcz19_7
    try clear hcz19_8
    try clear hcz19_9
    try clear hcz21_0
    try clear hcz21_1
    try clear hcz21_10
    try clear hcz21_2
    try clear hcz21_3
    try clear hcz21_4
    try clear hcz21_5
    try clear hcz21_6
    try clear hcz21_7
    try clear hcz21_8
    try clear hcz21_9
    try clear hcz22_0
    try clear hcz22_1
    try clear hcz22_10
    try clear hcz22_2
    try clear hcz22_3
    try clear hcz22_4
    try clear hcz22_5
    try clear hcz22_6
    try clear hcz22_7
    try clear hcz22_8
    try clear hcz22_9
    try clear hcz5_0
    try clear hcz5_1
    try clear hcz5_10
    try clear hcz5_2
    try clear hcz5_3
    try clear hcz5_4
    try clear hcz5_5
    try clear hcz5_6
    try clear hcz5_7
    try clear hcz5_8
    try clear hcz5_9
    try clear hcz7_0
    try clear hcz7_1
    try clear hcz7_10
    try clear hcz7_2
    try clear hcz7_3
    try clear hcz7_4
    try clear hcz7_5
    try clear hcz7_6
    try clear hcz7_7
    try clear hcz7_8
    try clear hcz7_9
    try clear hcz9_0
    try clear hcz9_1
    try clear hcz9_10
    try clear hcz9_2
    try clear hcz9_3
    try clear hcz9_4
    try clear hcz9_5
    try clear hcz9_6
    try clear hcz9_7
    try clear hcz9_8
    try clear hcz9_9
    try clear hfz11_0
    try clear hfz11_1
    try clear hfz11_10
    try clear hfz11_2
    try clear hfz11_3
    try clear hfz11_4
    try clear hfz11_5
    try clear hfz11_6
    try clear hfz11_7
    try clear hfz11_8
    try clear hfz11_9
    try clear hfz13_0
    try clear hfz13_1
    try clear hfz13_10
    try clear hfz13_2
    try clear hfz13_3
    try clear hfz13_4
    try clear hfz13_5
    try clear hfz13_6
    try clear hfz13_7
    try clear hfz13_8
    try clear hfz13_9
    try clear hfz15_0
    try clear hfz15_1
    try clear hfz15_10
    try clear hfz15_2
    try clear hfz15_3
    try clear hfz15_4
    try clear hfz15_5
    try clear hfz15_6
    try clear hfz15_7
    try clear hfz15_8
    try clear hfz15_9
    try clear hfz17_0
    try clear hfz17_1
    try clear hfz17_10
    try clear hfz17_2
    try clear hfz17_3
    try clear hfz17_4
    try clear hfz17_5
    try clear hfz17_6
    try clear hfz17_7
    try clear hfz17_8
    try clear hfz17_9
    try clear hfz19_0
    try clear hfz19_1
    try clear hfz19_10
    try clear hfz19_2
    try clear hfz19_3
    try clear hfz19_4
    try clear hfz19_5
    try clear hfz19_6
    try clear hfz19_7
    try clear hfz19_8
    try clear hfz19_9
    try clear hfz21_0
    try clear hfz21_1
    try clear hfz21_10
    try clear hfz21_2
    try clear hfz21_3
    try clear hfz21_4
    try clear hfz21_5
    try clear hfz21_6
    try clear hfz21_7
    try clear hfz21_8
    try clear hfz21_9
    try clear hfz22_0
    try clear hfz22_1
    try clear hfz22_10
    try clear hfz22_2
    try clear hfz22_3
    try clear hfz22_4
    try clear hfz22_5
    try clear hfz22_6
    try clear hfz22_7
    try clear hfz22_8
    try clear hfz22_9
    try clear hfz5_0
    try clear hfz5_1
    try clear hfz5_10
    try clear hfz5_2
    try clear hfz5_3
    try clear hfz5_4
    try clear hfz5_5
    try clear hfz5_6
    try clear hfz5_7
    try clear hfz5_8
    try clear hfz5_9
    try clear hfz7_0
    try clear hfz7_1
    try clear hfz7_10
    try clear hfz7_2
    try clear hfz7_3
    try clear hfz7_4
    try clear hfz7_5
    try clear hfz7_6
    try clear hfz7_7
    try clear hfz7_8
    try clear hfz7_9
    try clear hfz9_0
    try clear hfz9_1
    try clear hfz9_10
    try clear hfz9_2
    try clear hfz9_3
    try clear hfz9_4
    try clear hfz9_5
    try clear hfz9_6
    try clear hfz9_7
    try clear hfz9_8
    try clear hfz9_9
    obtain ⟨kq, x50_1, rfl, HA, HJ1, BK279, HB⟩ := hcut
    cases kq with
    | zero => exact absurd HA.out (by simp [gatelineref09_Is.j0])
    | succ kj1 =>
      have H := HA.out
      clear HA
      simp only [gatelineref09_Is.j0] at H
      by_cases c23 : x50_1 = true
      · subst c23
        have H1 : (some false) = some r := by rw [if_pos rfl] at H; exact H
        clear H
        have H := H1
        clear H1
        obtain rfl := Option.some.inj H
        go_wp2
        go_ret
        exact ⟨by first | rfl | (simp [errW_none, errW_some] <;> rfl) | (simp [*, errW_none, errW_some] <;> rfl), by repeat (first | (with_reducible first | exact HB.out | apply below_alloc | apply pw_below_drewN | apply below_drew1 | refine below_set ?_ GE279.out) | exact HB.out)⟩
      · replace c23 := Bool.eq_false_iff.mpr c23
        subst c23
        have H1 : (if a0_7 < 0 then (gatelineref09_Is.j1 kj1 true a0_0 a0_1 a0_2 a0_3 a0_4 a0_5 a0_6 a0_7 a0_8 a0_9 a0_10) else (if a0_7 > 99999 then (gatelineref09_Is.j1 kj1 true a0_0 a0_1 a0_2 a0_3 a0_4 a0_5 a0_6 a0_7 a0_8 a0_9 a0_10) else (if a0_8 < 1 then (gatelineref09_Is.j1 kj1 true a0_0 a0_1 a0_2 a0_3 a0_4 a0_5 a0_6 a0_7 a0_8 a0_9 a0_10) else (if a0_8 > 999 then (gatelineref09_Is.j1 kj1 true a0_0 a0_1 a0_2 a0_3 a0_4 a0_5 a0_6 a0_7 a0_8 a0_9 a0_10) else (if (wrap64 (a0_7 + a0_8)) > 100000 then (gatelineref09_Is.j1 kj1 true a0_0 a0_1 a0_2 a0_3 a0_4 a0_5 a0_6 a0_7 a0_8 a0_9 a0_10) else (if a0_10 < 0 then (gatelineref09_Is.j1 kj1 true a0_0 a0_1 a0_2 a0_3 a0_4 a0_5 a0_6 a0_7 a0_8 a0_9 a0_10) else (gatelineref09_Is.j1 kj1 (decide (a0_10 > 9)) a0_0 a0_1 a0_2 a0_3 a0_4 a0_5 a0_6 a0_7 a0_8 a0_9 a0_10))))))) = some r := by rw [if_neg (show ¬ (false = true) by decide)] at H; exact H
        clear H
        have H := H1
        clear H1
        have HC24 := Aside0.mk H
        clear H
        go_upto_region 3 with (fail)
        go_cut [86] (fun v86 wc => ∃ (kq : Nat) (x86_23 : Bool), v86 = .bool x86_23 ∧ Aside0 (gatelineref09_Is.j1 kq x86_23 a0_0 a0_1 a0_2 a0_3 a0_4 a0_5 a0_6 a0_7 a0_8 a0_9 a0_10 = some r) ∧ Aside0 (kq ≤ kj1) ∧ Aside0 (wc.heap[gb279]? = some (.cells #[.int .i64 a0_0, .int .i64 a0_1, .int .i64 a0_2, .int .i64 a0_3, .int .i64 a0_4, .int .i64 a0_5, .int .i64 a0_6, .int .i64 a0_7, .int .i64 a0_8, .int .i64 a0_9, .int .i64 a0_10] 42 (0, 0))) ∧ Aside0 (Below w.heap.size w wc))
        case first =>
          have H := HC24.out
          clear HC24
          by_cases c25 : a0_7 < 0
          · rw [if_pos c25] at H
            have c25b0 : decide (a0_7 < 0) = true := decide_eq_true c25
            clear c25
            (first | rw [c25b0] | (simp only [i64_w, i32_w]; rw [c25b0]) | skip)
            have H' := Aside0.mk H
            clear H
            have hcz26_0 : wc.cell? ⟨gb279, 0, none⟩ = some (.int .i64 a0_0) := (blk_cell BK279.out 0).trans rfl
            have hcz26_1 : wc.cell? ⟨gb279, 1, none⟩ = some (.int .i64 a0_1) := (blk_cell BK279.out 1).trans rfl
            have hcz26_2 : wc.cell? ⟨gb279, 2, none⟩ = some (.int .i64 a0_2) := (blk_cell BK279.out 2).trans rfl
            have hcz26_3 : wc.cell? ⟨gb279, 3, none⟩ = some (.int .i64 a0_3) := (blk_cell BK279.out 3).trans rfl
            have hcz26_4 : wc.cell? ⟨gb279, 4, none⟩ = some (.int .i64 a0_4) := (blk_cell BK279.out 4).trans rfl
            have hcz26_5 : wc.cell? ⟨gb279, 5, none⟩ = some (.int .i64 a0_5) := (blk_cell BK279.out 5).trans rfl
            have hcz26_6 : wc.cell? ⟨gb279, 6, none⟩ = some (.int .i64 a0_6) := (blk_cell BK279.out 6).trans rfl
            have hcz26_7 : wc.cell? ⟨gb279, 7, none⟩ = some (.int .i64 a0_7) := (blk_cell BK279.out 7).trans rfl
            have hcz26_8 : wc.cell? ⟨gb279, 8, none⟩ = some (.int .i64 a0_8) := (blk_cell BK279.out 8).trans rfl
            have hcz26_9 : wc.cell? ⟨gb279, 9, none⟩ = some (.int .i64 a0_9) := (blk_cell BK279.out 9).trans rfl
            have hcz26_10 : wc.cell? ⟨gb279, 10, none⟩ = some (.int .i64 a0_10) := (blk_cell BK279.out 10).trans rfl
            have hfz26_0 := blk_frozen BK279.out 0
            have hfz26_1 := blk_frozen BK279.out 1
            have hfz26_2 := blk_frozen BK279.out 2
            have hfz26_3 := blk_frozen BK279.out 3
            have hfz26_4 := blk_frozen BK279.out 4
            have hfz26_5 := blk_frozen BK279.out 5
            have hfz26_6 := blk_frozen BK279.out 6
            have hfz26_7 := blk_frozen BK279.out 7
            have hfz26_8 := blk_frozen BK279.out 8
            have hfz26_9 := blk_frozen BK279.out 9
            have hfz26_10 := blk_frozen BK279.out 10
            go_wp2
            go_meet
            case rel => exact ⟨_, (true), (by first | rfl | (simp; done) | (simp [*]; done)), H', ⟨by have := HJ1.out; first | omega | exact Nat.le_refl _⟩, ⟨by (with_reducible repeat (first | refine blk_drewN ?_ _ | refine blk_drew ?_ | refine blk_alloc ?_ _)); exact BK279.out⟩, ⟨by repeat (first | (with_reducible first | exact HB.out | apply below_alloc | apply pw_below_drewN | apply below_drew1 | refine below_set ?_ GE279.out) | exact HB.out)⟩⟩
          · rw [if_neg c25] at H
            have c25b0 : decide (a0_7 < 0) = false := decide_eq_false c25
            clear c25
            (first | rw [c25b0] | (simp only [i64_w, i32_w]; rw [c25b0]) | skip)
            by_cases c27 : a0_7 > 99999
            · rw [if_pos c27] at H
              have c27b0 : decide (99999 < a0_7) = true := decide_eq_true c27
              clear c27
              have H' := Aside0.mk H
              clear H
              have hcz28_0 : wc.cell? ⟨gb279, 0, none⟩ = some (.int .i64 a0_0) := (blk_cell BK279.out 0).trans rfl
              have hcz28_1 : wc.cell? ⟨gb279, 1, none⟩ = some (.int .i64 a0_1) := (blk_cell BK279.out 1).trans rfl
              have hcz28_2 : wc.cell? ⟨gb279, 2, none⟩ = some (.int .i64 a0_2) := (blk_cell BK279.out 2).trans rfl
              have hcz28_3 : wc.cell? ⟨gb279, 3, none⟩ = some (.int .i64 a0_3) := (blk_cell BK279.out 3).trans rfl
              have hcz28_4 : wc.cell? ⟨gb279, 4, none⟩ = some (.int .i64 a0_4) := (blk_cell BK279.out 4).trans rfl
              have hcz28_5 : wc.cell? ⟨gb279, 5, none⟩ = some (.int .i64 a0_5) := (blk_cell BK279.out 5).trans rfl
              have hcz28_6 : wc.cell? ⟨gb279, 6, none⟩ = some (.int .i64 a0_6) := (blk_cell BK279.out 6).trans rfl
              have hcz28_7 : wc.cell? ⟨gb279, 7, none⟩ = some (.int .i64 a0_7) := (blk_cell BK279.out 7).trans rfl
              have hcz28_8 : wc.cell? ⟨gb279, 8, none⟩ = some (.int .i64 a0_8) := (blk_cell BK279.out 8).trans rfl
              have hcz28_9 : wc.cell? ⟨gb279, 9, none⟩ = some (.int .i64 a0_9) := (blk_cell BK279.out 9).trans rfl
              have hcz28_10 : wc.cell? ⟨gb279, 10, none⟩ = some (.int .i64 a0_10) := (blk_cell BK279.out 10).trans rfl
              have hfz28_0 := blk_frozen BK279.out 0
              have hfz28_1 := blk_frozen BK279.out 1
              have hfz28_2 := blk_frozen BK279.out 2
              have hfz28_3 := blk_frozen BK279.out 3
              have hfz28_4 := blk_frozen BK279.out 4
              have hfz28_5 := blk_frozen BK279.out 5
              have hfz28_6 := blk_frozen BK279.out 6
              have hfz28_7 := blk_frozen BK279.out 7
              have hfz28_8 := blk_frozen BK279.out 8
              have hfz28_9 := blk_frozen BK279.out 9
              have hfz28_10 := blk_frozen BK279.out 10
              go_wp2
              go_meet
              case rel => exact ⟨_, (true), (by first | rfl | (simp; done) | (simp [*]; done)), H', ⟨by have := HJ1.out; first | omega | exact Nat.le_refl _⟩, ⟨by (with_reducible repeat (first | refine blk_drewN ?_ _ | refine blk_drew ?_ | refine blk_alloc ?_ _)); exact BK279.out⟩, ⟨by repeat (first | (with_reducible first | exact HB.out | apply below_alloc | apply pw_below_drewN | apply below_drew1 | refine below_set ?_ GE279.out) | exact HB.out)⟩⟩
            · rw [if_neg c27] at H
              have c27b0 : decide (99999 < a0_7) = false := decide_eq_false c27
              clear c27
              by_cases c29 : a0_8 < 1
              · rw [if_pos c29] at H
                have c29b0 : decide (a0_8 < 1) = true := decide_eq_true c29
                clear c29
                have H' := Aside0.mk H
                clear H
                have hcz30_0 : wc.cell? ⟨gb279, 0, none⟩ = some (.int .i64 a0_0) := (blk_cell BK279.out 0).trans rfl
                have hcz30_1 : wc.cell? ⟨gb279, 1, none⟩ = some (.int .i64 a0_1) := (blk_cell BK279.out 1).trans rfl
                have hcz30_2 : wc.cell? ⟨gb279, 2, none⟩ = some (.int .i64 a0_2) := (blk_cell BK279.out 2).trans rfl
                have hcz30_3 : wc.cell? ⟨gb279, 3, none⟩ = some (.int .i64 a0_3) := (blk_cell BK279.out 3).trans rfl
                have hcz30_4 : wc.cell? ⟨gb279, 4, none⟩ = some (.int .i64 a0_4) := (blk_cell BK279.out 4).trans rfl
                have hcz30_5 : wc.cell? ⟨gb279, 5, none⟩ = some (.int .i64 a0_5) := (blk_cell BK279.out 5).trans rfl
                have hcz30_6 : wc.cell? ⟨gb279, 6, none⟩ = some (.int .i64 a0_6) := (blk_cell BK279.out 6).trans rfl
                have hcz30_7 : wc.cell? ⟨gb279, 7, none⟩ = some (.int .i64 a0_7) := (blk_cell BK279.out 7).trans rfl
                have hcz30_8 : wc.cell? ⟨gb279, 8, none⟩ = some (.int .i64 a0_8) := (blk_cell BK279.out 8).trans rfl
                have hcz30_9 : wc.cell? ⟨gb279, 9, none⟩ = some (.int .i64 a0_9) := (blk_cell BK279.out 9).trans rfl
                have hcz30_10 : wc.cell? ⟨gb279, 10, none⟩ = some (.int .i64 a0_10) := (blk_cell BK279.out 10).trans rfl
                have hfz30_0 := blk_frozen BK279.out 0
                have hfz30_1 := blk_frozen BK279.out 1
                have hfz30_2 := blk_frozen BK279.out 2
                have hfz30_3 := blk_frozen BK279.out 3
                have hfz30_4 := blk_frozen BK279.out 4
                have hfz30_5 := blk_frozen BK279.out 5
                have hfz30_6 := blk_frozen BK279.out 6
                have hfz30_7 := blk_frozen BK279.out 7
                have hfz30_8 := blk_frozen BK279.out 8
                have hfz30_9 := blk_frozen BK279.out 9
                have hfz30_10 := blk_frozen BK279.out 10
                go_wp2
                go_meet
                case rel => exact ⟨_, (true), (by first | rfl | (simp; done) | (simp [*]; done)), H', ⟨by have := HJ1.out; first | omega | exact Nat.le_refl _⟩, ⟨by (with_reducible repeat (first | refine blk_drewN ?_ _ | refine blk_drew ?_ | refine blk_alloc ?_ _)); exact BK279.out⟩, ⟨by repeat (first | (with_reducible first | exact HB.out | apply below_alloc | apply pw_below_drewN | apply below_drew1 | refine below_set ?_ GE279.out) | exact HB.out)⟩⟩
              · rw [if_neg c29] at H
                have c29b0 : decide (a0_8 < 1) = false := decide_eq_false c29
                clear c29
                by_cases c31 : a0_8 > 999
                · rw [if_pos c31] at H
                  have c31b0 : decide (999 < a0_8) = true := decide_eq_true c31
                  clear c31
                  have H' := Aside0.mk H
                  clear H
                  have hcz32_0 : wc.cell? ⟨gb279, 0, none⟩ = some (.int .i64 a0_0) := (blk_cell BK279.out 0).trans rfl
                  have hcz32_1 : wc.cell? ⟨gb279, 1, none⟩ = some (.int .i64 a0_1) := (blk_cell BK279.out 1).trans rfl
                  have hcz32_2 : wc.cell? ⟨gb279, 2, none⟩ = some (.int .i64 a0_2) := (blk_cell BK279.out 2).trans rfl
                  have hcz32_3 : wc.cell? ⟨gb279, 3, none⟩ = some (.int .i64 a0_3) := (blk_cell BK279.out 3).trans rfl
                  have hcz32_4 : wc.cell? ⟨gb279, 4, none⟩ = some (.int .i64 a0_4) := (blk_cell BK279.out 4).trans rfl
                  have hcz32_5 : wc.cell? ⟨gb279, 5, none⟩ = some (.int .i64 a0_5) := (blk_cell BK279.out 5).trans rfl
                  have hcz32_6 : wc.cell? ⟨gb279, 6, none⟩ = some (.int .i64 a0_6) := (blk_cell BK279.out 6).trans rfl
                  have hcz32_7 : wc.cell? ⟨gb279, 7, none⟩ = some (.int .i64 a0_7) := (blk_cell BK279.out 7).trans rfl
                  have hcz32_8 : wc.cell? ⟨gb279, 8, none⟩ = some (.int .i64 a0_8) := (blk_cell BK279.out 8).trans rfl
                  have hcz32_9 : wc.cell? ⟨gb279, 9, none⟩ = some (.int .i64 a0_9) := (blk_cell BK279.out 9).trans rfl
                  have hcz32_10 : wc.cell? ⟨gb279, 10, none⟩ = some (.int .i64 a0_10) := (blk_cell BK279.out 10).trans rfl
                  have hfz32_0 := blk_frozen BK279.out 0
                  have hfz32_1 := blk_frozen BK279.out 1
                  have hfz32_2 := blk_frozen BK279.out 2
                  have hfz32_3 := blk_frozen BK279.out 3
                  have hfz32_4 := blk_frozen BK279.out 4
                  have hfz32_5 := blk_frozen BK279.out 5
                  have hfz32_6 := blk_frozen BK279.out 6
                  have hfz32_7 := blk_frozen BK279.out 7
                  have hfz32_8 := blk_frozen BK279.out 8
                  have hfz32_9 := blk_frozen BK279.out 9
                  have hfz32_10 := blk_frozen BK279.out 10
                  go_wp2
                  go_meet
                  case rel => exact ⟨_, (true), (by first | rfl | (simp; done) | (simp [*]; done)), H', ⟨by have := HJ1.out; first | omega | exact Nat.le_refl _⟩, ⟨by (with_reducible repeat (first | refine blk_drewN ?_ _ | refine blk_drew ?_ | refine blk_alloc ?_ _)); exact BK279.out⟩, ⟨by repeat (first | (with_reducible first | exact HB.out | apply below_alloc | apply pw_below_drewN | apply below_drew1 | refine below_set ?_ GE279.out) | exact HB.out)⟩⟩
                · rw [if_neg c31] at H
                  have c31b0 : decide (999 < a0_8) = false := decide_eq_false c31
                  clear c31
                  by_cases c33 : (wrap64 (a0_7 + a0_8)) > 100000
                  · rw [if_pos c33] at H
                    have c33b0 : decide (100000 < (wrap64 (a0_7 + a0_8))) = true := decide_eq_true c33
                    clear c33
                    have H' := Aside0.mk H
                    clear H
                    have hcz34_0 : wc.cell? ⟨gb279, 0, none⟩ = some (.int .i64 a0_0) := (blk_cell BK279.out 0).trans rfl
                    have hcz34_1 : wc.cell? ⟨gb279, 1, none⟩ = some (.int .i64 a0_1) := (blk_cell BK279.out 1).trans rfl
                    have hcz34_2 : wc.cell? ⟨gb279, 2, none⟩ = some (.int .i64 a0_2) := (blk_cell BK279.out 2).trans rfl
                    have hcz34_3 : wc.cell? ⟨gb279, 3, none⟩ = some (.int .i64 a0_3) := (blk_cell BK279.out 3).trans rfl
                    have hcz34_4 : wc.cell? ⟨gb279, 4, none⟩ = some (.int .i64 a0_4) := (blk_cell BK279.out 4).trans rfl
                    have hcz34_5 : wc.cell? ⟨gb279, 5, none⟩ = some (.int .i64 a0_5) := (blk_cell BK279.out 5).trans rfl
                    have hcz34_6 : wc.cell? ⟨gb279, 6, none⟩ = some (.int .i64 a0_6) := (blk_cell BK279.out 6).trans rfl
                    have hcz34_7 : wc.cell? ⟨gb279, 7, none⟩ = some (.int .i64 a0_7) := (blk_cell BK279.out 7).trans rfl
                    have hcz34_8 : wc.cell? ⟨gb279, 8, none⟩ = some (.int .i64 a0_8) := (blk_cell BK279.out 8).trans rfl
                    have hcz34_9 : wc.cell? ⟨gb279, 9, none⟩ = some (.int .i64 a0_9) := (blk_cell BK279.out 9).trans rfl
                    have hcz34_10 : wc.cell? ⟨gb279, 10, none⟩ = some (.int .i64 a0_10) := (blk_cell BK279.out 10).trans rfl
                    have hfz34_0 := blk_frozen BK279.out 0
                    have hfz34_1 := blk_frozen BK279.out 1
                    have hfz34_2 := blk_frozen BK279.out 2
                    have hfz34_3 := blk_frozen BK279.out 3
                    have hfz34_4 := blk_frozen BK279.out 4
                    have hfz34_5 := blk_frozen BK279.out 5
                    have hfz34_6 := blk_frozen BK279.out 6
                    have hfz34_7 := blk_frozen BK279.out 7
                    have hfz34_8 := blk_frozen BK279.out 8
                    have hfz34_9 := blk_frozen BK279.out 9
                    have hfz34_10 := blk_frozen BK279.out 10
                    go_wp2
                    go_meet
                    case rel => exact ⟨_, (true), (by first | rfl | (simp; done) | (simp [*]; done)), H', ⟨by have := HJ1.out; first | omega | exact Nat.le_refl _⟩, ⟨by (with_reducible repeat (first | refine blk_drewN ?_ _ | refine blk_drew ?_ | refine blk_alloc ?_ _)); exact BK279.out⟩, ⟨by repeat (first | (with_reducible first | exact HB.out | apply below_alloc | apply pw_below_drewN | apply below_drew1 | refine below_set ?_ GE279.out) | exact HB.out)⟩⟩
                  · rw [if_neg c33] at H
                    have c33b0 : decide (100000 < (wrap64 (a0_7 + a0_8))) = false := decide_eq_false c33
                    clear c33
                    by_cases c35 : a0_10 < 0
                    · rw [if_pos c35] at H
                      have c35b0 : decide (a0_10 < 0) = true := decide_eq_true c35
                      clear c35
                      have H' := Aside0.mk H
                      clear H
                      have hcz36_0 : wc.cell? ⟨gb279, 0, none⟩ = some (.int .i64 a0_0) := (blk_cell BK279.out 0).trans rfl
                      have hcz36_1 : wc.cell? ⟨gb279, 1, none⟩ = some (.int .i64 a0_1) := (blk_cell BK279.out 1).trans rfl
                      have hcz36_2 : wc.cell? ⟨gb279, 2, none⟩ = some (.int .i64 a0_2) := (blk_cell BK279.out 2).trans rfl
                      have hcz36_3 : wc.cell? ⟨gb279, 3, none⟩ = some (.int .i64 a0_3) := (blk_cell BK279.out 3).trans rfl
                      have hcz36_4 : wc.cell? ⟨gb279, 4, none⟩ = some (.int .i64 a0_4) := (blk_cell BK279.out 4).trans rfl
                      have hcz36_5 : wc.cell? ⟨gb279, 5, none⟩ = some (.int .i64 a0_5) := (blk_cell BK279.out 5).trans rfl
                      have hcz36_6 : wc.cell? ⟨gb279, 6, none⟩ = some (.int .i64 a0_6) := (blk_cell BK279.out 6).trans rfl
                      have hcz36_7 : wc.cell? ⟨gb279, 7, none⟩ = some (.int .i64 a0_7) := (blk_cell BK279.out 7).trans rfl
                      have hcz36_8 : wc.cell? ⟨gb279, 8, none⟩ = some (.int .i64 a0_8) := (blk_cell BK279.out 8).trans rfl
                      have hcz36_9 : wc.cell? ⟨gb279, 9, none⟩ = some (.int .i64 a0_9) := (blk_cell BK279.out 9).trans rfl
                      have hcz36_10 : wc.cell? ⟨gb279, 10, none⟩ = some (.int .i64 a0_10) := (blk_cell BK279.out 10).trans rfl
                      have hfz36_0 := blk_frozen BK279.out 0
                      have hfz36_1 := blk_frozen BK279.out 1
                      have hfz36_2 := blk_frozen BK279.out 2
                      have hfz36_3 := blk_frozen BK279.out 3
                      have hfz36_4 := blk_frozen BK279.out 4
                      have hfz36_5 := blk_frozen BK279.out 5
                      have hfz36_6 := blk_frozen BK279.out 6
                      have hfz36_7 := blk_frozen BK279.out 7
                      have hfz36_8 := blk_frozen BK279.out 8
                      have hfz36_9 := blk_frozen BK279.out 9
                      have hfz36_10 := blk_frozen BK279.out 10
                      go_wp2
                      go_meet
                      case rel => exact ⟨_, (true), (by first | rfl | (simp; done) | (simp [*]; done)), H', ⟨by have := HJ1.out; first | omega | exact Nat.le_refl _⟩, ⟨by (with_reducible repeat (first | refine blk_drewN ?_ _ | refine blk_drew ?_ | refine blk_alloc ?_ _)); exact BK279.out⟩, ⟨by repeat (first | (with_reducible first | exact HB.out | apply below_alloc | apply pw_below_drewN | apply below_drew1 | refine below_set ?_ GE279.out) | exact HB.out)⟩⟩
                    · rw [if_neg c35] at H
                      have c35b0 : decide (a0_10 < 0) = false := decide_eq_false c35
                      clear c35
                      have H' := Aside0.mk H
                      clear H
                      have hcz37_0 : wc.cell? ⟨gb279, 0, none⟩ = some (.int .i64 a0_0) := (blk_cell BK279.out 0).trans rfl
                      have hcz37_1 : wc.cell? ⟨gb279, 1, none⟩ = some (.int .i64 a0_1) := (blk_cell BK279.out 1).trans rfl
                      have hcz37_2 : wc.cell? ⟨gb279, 2, none⟩ = some (.int .i64 a0_2) := (blk_cell BK279.out 2).trans rfl
                      have hcz37_3 : wc.cell? ⟨gb279, 3, none⟩ = some (.int .i64 a0_3) := (blk_cell BK279.out 3).trans rfl
                      have hcz37_4 : wc.cell? ⟨gb279, 4, none⟩ = some (.int .i64 a0_4) := (blk_cell BK279.out 4).trans rfl
                      have hcz37_5 : wc.cell? ⟨gb279, 5, none⟩ = some (.int .i64 a0_5) := (blk_cell BK279.out 5).trans rfl
                      have hcz37_6 : wc.cell? ⟨gb279, 6, none⟩ = some (.int .i64 a0_6) := (blk_cell BK279.out 6).trans rfl
                      have hcz37_7 : wc.cell? ⟨gb279, 7, none⟩ = some (.int .i64 a0_7) := (blk_cell BK279.out 7).trans rfl
                      have hcz37_8 : wc.cell? ⟨gb279, 8, none⟩ = some (.int .i64 a0_8) := (blk_cell BK279.out 8).trans rfl
                      have hcz37_9 : wc.cell? ⟨gb279, 9, none⟩ = some (.int .i64 a0_9) := (blk_cell BK279.out 9).trans rfl
                      have hcz37_10 : wc.cell? ⟨gb279, 10, none⟩ = some (.int .i64 a0_10) := (blk_cell BK279.out 10).trans rfl
                      have hfz37_0 := blk_frozen BK279.out 0
                      have hfz37_1 := blk_frozen BK279.out 1
                      have hfz37_2 := blk_frozen BK279.out 2
                      have hfz37_3 := blk_frozen BK279.out 3
                      have hfz37_4 := blk_frozen BK279.out 4
                      have hfz37_5 := blk_frozen BK279.out 5
                      have hfz37_6 := blk_frozen BK279.out 6
                      have hfz37_7 := blk_frozen BK279.out 7
                      have hfz37_8 := blk_frozen BK279.out 8
                      have hfz37_9 := blk_frozen BK279.out 9
                      have hfz37_10 := blk_frozen BK279.out 10
                      go_wp2
                      go_meet
                      case rel => exact ⟨_, (decide (a0_10 > 9)), (by first | rfl | (simp; done) | (simp [*]; done)), H', ⟨by have := HJ1.out; first | omega | exact Nat.le_refl _⟩, ⟨by (with_reducible repeat (first | refine blk_drewN ?_ _ | refine blk_drew ?_ | refine blk_alloc ?_ _)); exact BK279.out⟩, ⟨by repeat (first | (with_reducible first | exact HB.out | apply below_alloc | apply pw_below_drewN | apply below_drew1 | refine below_set ?_ GE279.out) | exact HB.out)⟩⟩
        case rest =>
          clear HC24
          try clear c1
          try clear c2
          try clear p2
          try clear c3
          try clear c4
          try clear c4b0
          try clear c6
          try clear c6b0
          try clear p6
          try clear c8
          try clear c8b0
          try clear c10
          try clear c10b0
          try clear c12
          try clear c12b0
          try clear c14
          try clear c14b0
          try clear c16
          try clear c16b0
          try clear c18
          try clear c18b0
          try clear c20
          try clear c20b0
          try clear c23
          try clear c25
          try clear c25b0
          try clear c27
          try clear c27b0
          try clear c29
          try clear c29b0
          try clear c31
          try clear c31b0
          try clear c33
          try clear c33b0
          try clear c35
          try clear c35b0
          try clear hcz11_0
          try clear hcz11_1
          try clear hcz11_10
          try clear hcz11_2
          try clear hcz11_3
          try clear hcz11_4
          try clear hcz11_5
          try clear hcz11_6
          try clear hcz11_7
          try clear hcz11_8
          try clear hcz11_9
          try clear hcz13_0
          try clear hcz13_1
          try clear hcz13_10
          try clear hcz13_2
          try clear hcz13_3
          try clear hcz13_4
          try clear hcz13_5
          try clear hcz13_6
          try clear hcz13_7
          try clear hcz13_8
          try clear hcz13_9
          try clear hcz15_0
          try clear hcz15_1
          try clear hcz15_10
          try clear hcz15_2
          try clear hcz15_3
          try clear hcz15_4
          try clear hcz15_5
          try clear hcz15_6
          try clear hcz15_7
          try clear hcz15_8
          try clear hcz15_9
          try clear hcz17_0
          try clear hcz17_1
          try clear hcz17_10
          try clear hcz17_2
          try clear hcz17_3
          try clear hcz17_4
          try clear hcz17_5
          try clear hcz17_6
          try clear hcz17_7
          try clear hcz17_8
          try clear hcz17_9
          try clear hcz19_0
          try clear hcz19_1
          try clear hcz19_10
          try clear hcz19_2
          try clear hcz19_3
          try clear hcz19_4
          try clear hcz19_5
          try clear hcz19_6
          try clear hcz19_7
          try clear hcz19_8
          try clear hcz19_9
          try clear hcz21_0
          try clear hcz21_1
          try clear hcz21_10
          try clear hcz21_2
          try clear hcz21_3
          try clear hcz21_4
          try clear hcz21_5
          try clear hcz21_6
          try clear hcz21_7
          try clear hcz21_8
          try clear hcz21_9
          try clear hcz22_0
          try clear hcz22_1
          try clear hcz22_10
          try clear hcz22_2
          try clear hcz22_3
          try clear hcz22_4
          try clear hcz22_5
          try clear hcz22_6
          try clear hcz22_7
          try clear hcz22_8
          try clear hcz22_9
          try clear hcz26_0
          try clear hcz26_1
          try clear hcz26_10
          try clear hcz26_2
          try clear hcz26_3
          try clear hcz26_4
          try clear hcz26_5
          try clear hcz26_6
          try clear hcz26_7
          try clear hcz26_8
          try clear hcz26_9
          try clear hcz28_0
          try clear hcz28_1
          try clear hcz28_10
          try clear hcz28_2
          try clear hcz28_3
          try clear hcz28_4
          try clear hcz28_5
          try clear hcz28_6
          try clear hcz28_7
          try clear hcz28_8
          try clear hcz28_9
          try clear hcz30_0
          try clear hcz30_1
          try clear hcz30_10
          try clear hcz30_2
          try clear hcz30_3
          try clear hcz30_4
          try clear hcz30_5
          try clear hcz30_6
          try clear hcz30_7
          try clear hcz30_8
          try clear hcz30_9
          try clear hcz32_0
          try clear hcz32_1
          try clear hcz32_10
          try clear hcz32_2
          try clear hcz32_3
          try clear hcz32_4
          try clear hcz32_5
          try clear hcz32_6
          try clear hcz32_7
          try clear hcz32_8
          try clear hcz32_9
          try clear hcz34_0
          try clear hcz34_1
          try clear hcz34_10
          try clear hcz34_2
          try clear hcz34_3
          try clear hcz34_4
          try clear hcz34_5
          try clear hcz34_6
          try clear hcz34_7
          try clear hcz34_8
          try clear hcz34_9
          try clear hcz36_0
          try clear hcz36_1
          try clear hcz36_10
          try clear hcz36_2
          try clear hcz36_3
          try clear hcz36_4
          try clear hcz36_5
          try clear hcz36_6
          try clear hcz36_7
          try clear hcz36_8
          try clear hcz36_9
          try clear hcz37_0
          try clear hcz37_1
          try clear hcz37_10
          try clear hcz37_2
          try clear hcz37_3
          try clear hcz37_4
          try clear hcz37_5
          try clear hcz37_6
          try clear hcz37_7
          try clear hcz37_8
          try clear hcz37_9
          try clear hcz5_0
          try clear hcz5_1
          try clear hcz5_10
          try clear hcz5_2
          try clear hcz5_3
          try clear hcz5_4
          try clear hcz5_5
          try clear hcz5_6
          try clear hcz5_7
          try clear hcz5_8
          try clear hcz5_9
          try clear hcz7_0
          try clear hcz7_1
          try clear hcz7_10
          try clear hcz7_2
          try clear hcz7_3
          try clear hcz7_4
          try clear hcz7_5
          try clear hcz7_6
          try clear hcz7_7
          try clear hcz7_8
          try clear hcz7_9
          try clear hcz9_0
          try clear hcz9_1
          try clear hcz9_10
          try clear hcz9_2
          try clear hcz9_3
          try clear hcz9_4
          try clear hcz9_5
          try clear hcz9_6
          try clear hcz9_7
          try clear hcz9_8
          try clear hcz9_9
          try clear hfz11_0
          try clear hfz11_1
          try clear hfz11_10
          try clear hfz11_2
          try clear hfz11_3
          try clear hfz11_4
          try clear hfz11_5
          try clear hfz11_6
          try clear hfz11_7
          try clear hfz11_8
          try clear hfz11_9
          try clear hfz13_0
          try clear hfz13_1
          try clear hfz13_10
          try clear hfz13_2
          try clear hfz13_3
          try clear hfz13_4
          try clear hfz13_5
          try clear hfz13_6
          try clear hfz13_7
          try clear hfz13_8
          try clear hfz13_9
          try clear hfz15_0
          try clear hfz15_1
          try clear hfz15_10
          try clear hfz15_2
          try clear hfz15_3
          try clear hfz15_4
          try clear hfz15_5
          try clear hfz15_6
          try clear hfz15_7
          try clear hfz15_8
          try clear hfz15_9
          try clear hfz17_0
          try clear hfz17_1
          try clear hfz17_10
          try clear hfz17_2
          try clear hfz17_3
          try clear hfz17_4
          try clear hfz17_5
          try clear hfz17_6
          try clear hfz17_7
          try clear hfz17_8
          try clear hfz17_9
          try clear hfz19_0
          try clear hfz19_1
          try clear hfz19_10
          try clear hfz19_2
          try clear hfz19_3
          try clear hfz19_4
          try clear hfz19_5
          try clear hfz19_6
          try clear hfz19_7
          try clear hfz19_8
          try clear hfz19_9
          try clear hfz21_0
          try clear hfz21_1
          try clear hfz21_10
          try clear hfz21_2
          try clear hfz21_3
          try clear hfz21_4
          try clear hfz21_5
          try clear hfz21_6
          try clear hfz21_7
          try clear hfz21_8
          try clear hfz21_9
          try clear hfz22_0
          try clear hfz22_1
          try clear hfz22_10
          try clear hfz22_2
          try clear hfz22_3
          try clear hfz22_4
          try clear hfz22_5
          try clear hfz22_6
          try clear hfz22_7
          try clear hfz22_8
          try clear hfz22_9
          try clear hfz26_0
          try clear hfz26_1
          try clear hfz26_10
          try clear hfz26_2
          try clear hfz26_3
          try clear hfz26_4
          try clear hfz26_5
          try clear hfz26_6
          try clear hfz26_7
          try clear hfz26_8
          try clear hfz26_9
          try clear hfz28_0
          try clear hfz28_1
          try clear hfz28_10
          try clear hfz28_2
          try clear hfz28_3
          try clear hfz28_4
          try clear hfz28_5
          try clear hfz28_6
          try clear hfz28_7
          try clear hfz28_8
          try clear hfz28_9
          try clear hfz30_0
          try clear hfz30_1
          try clear hfz30_10
          try clear hfz30_2
          try clear hfz30_3
          try clear hfz30_4
          try clear hfz30_5
          try clear hfz30_6
          try clear hfz30_7
          try clear hfz30_8
          try clear hfz30_9
          try clear hfz32_0
          try clear hfz32_1
          try clear hfz32_10
          try clear hfz32_2
          try clear hfz32_3
          try clear hfz32_4
          try clear hfz32_5
          try clear hfz32_6
          try clear hfz32_7
          try clear hfz32_8
          try clear hfz32_9
          try clear hfz34_0
          try clear hfz34_1
          try clear hfz34_10
          try clear hfz34_2
          try clear hfz34_3
          try clear hfz34_4
          try clear hfz34_5
          try clear hfz34_6
          try clear hfz34_7
          try clear hfz34_8
          try clear hfz34_9
          try clear hfz36_0
          try clear hfz36_1
          try clear hfz36_10
          try clear hfz36_2
          try clear hfz36_3
          try clear hfz36_4
          try clear hfz36_5
          try clear hfz36_6
          try clear hfz36_7
          try clear hfz36_8
          try clear hfz36_9
          try clear hfz37_0
          try clear hfz37_1
          try clear hfz37_10
          try clear hfz37_2
          try clear hfz37_3
          try clear hfz37_4
          try clear hfz37_5
          try clear hfz37_6
          try clear hfz37_7
          try clear hfz37_8
          try clear hfz37_9
          try clear hfz5_0
          try clear hfz5_1
          try clear hfz5_10
          try clear hfz5_2
          try clear hfz5_3
          try clear hfz5_4
          try clear hfz5_5
          try clear hfz5_6
          try clear hfz5_7
          try clear hfz5_8
          try clear hfz5_9
          try clear hfz7_0
          try clear hfz7_1
          try clear hfz7_10
          try clear hfz7_2
          try clear hfz7_3
          try clear hfz7_4
          try clear hfz7_5
          try clear hfz7_6
          try clear hfz7_7
          try clear hfz7_8
          try clear hfz7_9
          try clear hfz9_0
          try clear hfz9_1
          try clear hfz9_10
          try clear hfz9_2
          try clear hfz9_3
          try clear hfz9_4
          try clear hfz9_5
          try clear hfz9_6
          try clear hfz9_7
          try clear hfz9_8
          try clear hfz9_9
          try clear p2
          obtain ⟨kq, x86_23, rfl, HA, HJ23, BK279, HB⟩ := hcut
          cases kq with
          | zero => exact absurd HA.out (by simp [gatelineref09_Is.j1])
          | succ kj23 =>
            have H := HA.out
            clear HA
            simp only [gatelineref09_Is.j1] at H
            by_cases c38 : x86_23 = true
            · subst c38
              have H1 : (some false) = some r := by rw [if_pos rfl] at H; exact H
              clear H
              have H := H1
              clear H1
              obtain rfl := Option.some.inj H
              go_wp2
              go_ret
              exact ⟨by first | rfl | (simp [errW_none, errW_some] <;> rfl) | (simp [*, errW_none, errW_some] <;> rfl), by repeat (first | (with_reducible first | exact HB.out | apply below_alloc | apply pw_below_drewN | apply below_drew1 | refine below_set ?_ GE279.out) | exact HB.out)⟩
            · replace c38 := Bool.eq_false_iff.mpr c38
              subst c38
              have H1 : ((gatelineref09_place.f a0_0 a0_1 a0_2 a0_3 a0_4 a0_5 a0_6 a0_7 a0_8 a0_9 a0_10).bind fun t280 => (if t280 = true then ((gatelineref09_uses.f a0_0 a0_1 a0_2 a0_3 a0_4 a0_5 a0_6 a0_7 a0_8 a0_9 a0_10).bind fun t281 => (some t281)) else (some false))) = some r := by rw [if_neg (show ¬ (false = true) by decide)] at H; exact H
              clear H
              have H := H1
              clear H1
              replace H := Option.bind_eq_some_iff.mp H
              obtain ⟨t280, A390, H⟩ := H
              replace H : (if t280 = true then ((gatelineref09_uses.f a0_0 a0_1 a0_2 a0_3 a0_4 a0_5 a0_6 a0_7 a0_8 a0_9 a0_10).bind fun t281 => (some t281)) else (some false)) = some r := H
              have A39 := Aside0.mk A390
              clear A390
              by_cases c40 : t280 = true
              · subst c40
                have H1 : ((gatelineref09_uses.f a0_0 a0_1 a0_2 a0_3 a0_4 a0_5 a0_6 a0_7 a0_8 a0_9 a0_10).bind fun t281 => (some t281)) = some r := by rw [if_pos rfl] at H; exact H
                clear H
                have H := H1
                clear H1
                replace H := Option.bind_eq_some_iff.mp H
                obtain ⟨t281, A410, H⟩ := H
                replace H : (some t281) = some r := H
                have A41 := Aside0.mk A410
                clear A410
                obtain rfl := Option.some.inj H
                have hcz42_0 : wc.cell? ⟨gb279, 0, none⟩ = some (.int .i64 a0_0) := (blk_cell BK279.out 0).trans rfl
                have hcz42_1 : wc.cell? ⟨gb279, 1, none⟩ = some (.int .i64 a0_1) := (blk_cell BK279.out 1).trans rfl
                have hcz42_2 : wc.cell? ⟨gb279, 2, none⟩ = some (.int .i64 a0_2) := (blk_cell BK279.out 2).trans rfl
                have hcz42_3 : wc.cell? ⟨gb279, 3, none⟩ = some (.int .i64 a0_3) := (blk_cell BK279.out 3).trans rfl
                have hcz42_4 : wc.cell? ⟨gb279, 4, none⟩ = some (.int .i64 a0_4) := (blk_cell BK279.out 4).trans rfl
                have hcz42_5 : wc.cell? ⟨gb279, 5, none⟩ = some (.int .i64 a0_5) := (blk_cell BK279.out 5).trans rfl
                have hcz42_6 : wc.cell? ⟨gb279, 6, none⟩ = some (.int .i64 a0_6) := (blk_cell BK279.out 6).trans rfl
                have hcz42_7 : wc.cell? ⟨gb279, 7, none⟩ = some (.int .i64 a0_7) := (blk_cell BK279.out 7).trans rfl
                have hcz42_8 : wc.cell? ⟨gb279, 8, none⟩ = some (.int .i64 a0_8) := (blk_cell BK279.out 8).trans rfl
                have hcz42_9 : wc.cell? ⟨gb279, 9, none⟩ = some (.int .i64 a0_9) := (blk_cell BK279.out 9).trans rfl
                have hcz42_10 : wc.cell? ⟨gb279, 10, none⟩ = some (.int .i64 a0_10) := (blk_cell BK279.out 10).trans rfl
                have hfz42_0 := blk_frozen BK279.out 0
                have hfz42_1 := blk_frozen BK279.out 1
                have hfz42_2 := blk_frozen BK279.out 2
                have hfz42_3 := blk_frozen BK279.out 3
                have hfz42_4 := blk_frozen BK279.out 4
                have hfz42_5 := blk_frozen BK279.out 5
                have hfz42_6 := blk_frozen BK279.out 6
                have hfz42_7 := blk_frozen BK279.out 7
                have hfz42_8 := blk_frozen BK279.out 8
                have hfz42_9 := blk_frozen BK279.out 9
                have hfz42_10 := blk_frozen BK279.out 10
                go_wp2_with (first | ((with_reducible refine gate_callee (f := 49) rfl ?_); refine goesL_ (some 88) rfl rfl Try.func49 (by kernel_rfl) rfl #[.agg #[.int .i64 a0_0, .int .i64 a0_1, .int .i64 a0_2, .int .i64 a0_3, .int .i64 a0_4, .int .i64 a0_5, .int .i64 a0_6, .int .i64 a0_7, .int .i64 a0_8, .int .i64 a0_9, .int .i64 a0_10]] rfl (by (try simp only [List.map_toArray, List.map_cons, List.map_nil]); first | done | rfl | (simp only [List.length_drop, List.length_take]; rfl)) ?_; (with_reducible refine (gatelineref09_place.calls a0_0 a0_1 a0_2 a0_3 a0_4 a0_5 a0_6 a0_7 a0_8 a0_9 a0_10 true _ A39.out).mono ?_); rintro e w43 ⟨rfl, hb⟩; refine ⟨_, rfl, ?_⟩; have n0_ := Aside0.mk (blk_below (g := gb279) (o := .cells #[.int .i64 a0_0, .int .i64 a0_1, .int .i64 a0_2, .int .i64 a0_3, .int .i64 a0_4, .int .i64 a0_5, .int .i64 a0_6, .int .i64 a0_7, .int .i64 a0_8, .int .i64 a0_9, .int .i64 a0_10] 42 (0, 0)) (by (with_reducible repeat (first | refine blk_drewN ?_ _ | refine blk_drew ?_ | refine blk_alloc ?_ _)); exact BK279.out) hb); have n1_ := Aside0.mk (below_step (by repeat (first | (with_reducible first | exact HB.out | apply below_alloc | apply pw_below_drewN | apply below_drew1 | refine below_set ?_ GE279.out) | exact HB.out)) hb); clear BK279; clear HB; have BK279 := n0_; have HB := n1_; clear n0_ n1_; (try clear hb); (try clear hb2); (try clear hk); (try clear hi); (try clear A39); have hcz44_0 : w43.cell? ⟨gb279, 0, none⟩ = some (.int .i64 a0_0) := (blk_cell BK279.out 0).trans rfl; have hcz44_1 : w43.cell? ⟨gb279, 1, none⟩ = some (.int .i64 a0_1) := (blk_cell BK279.out 1).trans rfl; have hcz44_2 : w43.cell? ⟨gb279, 2, none⟩ = some (.int .i64 a0_2) := (blk_cell BK279.out 2).trans rfl; have hcz44_3 : w43.cell? ⟨gb279, 3, none⟩ = some (.int .i64 a0_3) := (blk_cell BK279.out 3).trans rfl; have hcz44_4 : w43.cell? ⟨gb279, 4, none⟩ = some (.int .i64 a0_4) := (blk_cell BK279.out 4).trans rfl; have hcz44_5 : w43.cell? ⟨gb279, 5, none⟩ = some (.int .i64 a0_5) := (blk_cell BK279.out 5).trans rfl; have hcz44_6 : w43.cell? ⟨gb279, 6, none⟩ = some (.int .i64 a0_6) := (blk_cell BK279.out 6).trans rfl; have hcz44_7 : w43.cell? ⟨gb279, 7, none⟩ = some (.int .i64 a0_7) := (blk_cell BK279.out 7).trans rfl; have hcz44_8 : w43.cell? ⟨gb279, 8, none⟩ = some (.int .i64 a0_8) := (blk_cell BK279.out 8).trans rfl; have hcz44_9 : w43.cell? ⟨gb279, 9, none⟩ = some (.int .i64 a0_9) := (blk_cell BK279.out 9).trans rfl; have hcz44_10 : w43.cell? ⟨gb279, 10, none⟩ = some (.int .i64 a0_10) := (blk_cell BK279.out 10).trans rfl; have hfz44_0 := blk_frozen BK279.out 0; have hfz44_1 := blk_frozen BK279.out 1; have hfz44_2 := blk_frozen BK279.out 2; have hfz44_3 := blk_frozen BK279.out 3; have hfz44_4 := blk_frozen BK279.out 4; have hfz44_5 := blk_frozen BK279.out 5; have hfz44_6 := blk_frozen BK279.out 6; have hfz44_7 := blk_frozen BK279.out 7; have hfz44_8 := blk_frozen BK279.out 8; have hfz44_9 := blk_frozen BK279.out 9; have hfz44_10 := blk_frozen BK279.out 10) | (go_at_call 50; (with_reducible refine (gatelineref09_uses.calls a0_0 a0_1 a0_2 a0_3 a0_4 a0_5 a0_6 a0_7 a0_8 a0_9 a0_10 t281 _ A41.out).mono ?_); rintro e w45 ⟨rfl, hb⟩; have n0_ := Aside0.mk (blk_below (g := gb279) (o := .cells #[.int .i64 a0_0, .int .i64 a0_1, .int .i64 a0_2, .int .i64 a0_3, .int .i64 a0_4, .int .i64 a0_5, .int .i64 a0_6, .int .i64 a0_7, .int .i64 a0_8, .int .i64 a0_9, .int .i64 a0_10] 42 (0, 0)) (by (with_reducible repeat (first | refine blk_drewN ?_ _ | refine blk_drew ?_ | refine blk_alloc ?_ _)); exact BK279.out) hb); have n1_ := Aside0.mk (below_step (by repeat (first | (with_reducible first | exact HB.out | apply below_alloc | apply pw_below_drewN | apply below_drew1 | refine below_set ?_ GE279.out) | exact HB.out)) hb); clear BK279; clear HB; have BK279 := n0_; have HB := n1_; clear n0_ n1_; (try clear hb); (try clear hb2); (try clear hk); (try clear hi); (try clear A41)))
                go_ret
                exact ⟨by first | rfl | (simp [errW_none, errW_some] <;> rfl) | (simp [*, errW_none, errW_some] <;> rfl), by repeat (first | (with_reducible first | exact HB.out | apply below_alloc | apply pw_below_drewN | apply below_drew1 | refine below_set ?_ GE279.out) | exact HB.out)⟩
              · replace c40 := Bool.eq_false_iff.mpr c40
                subst c40
                have H1 : (some false) = some r := by rw [if_neg (show ¬ (false = true) by decide)] at H; exact H
                clear H
                have H := H1
                clear H1
                obtain rfl := Option.some.inj H
                have hcz46_0 : wc.cell? ⟨gb279, 0, none⟩ = some (.int .i64 a0_0) := (blk_cell BK279.out 0).trans rfl
                have hcz46_1 : wc.cell? ⟨gb279, 1, none⟩ = some (.int .i64 a0_1) := (blk_cell BK279.out 1).trans rfl
                have hcz46_2 : wc.cell? ⟨gb279, 2, none⟩ = some (.int .i64 a0_2) := (blk_cell BK279.out 2).trans rfl
                have hcz46_3 : wc.cell? ⟨gb279, 3, none⟩ = some (.int .i64 a0_3) := (blk_cell BK279.out 3).trans rfl
                have hcz46_4 : wc.cell? ⟨gb279, 4, none⟩ = some (.int .i64 a0_4) := (blk_cell BK279.out 4).trans rfl
                have hcz46_5 : wc.cell? ⟨gb279, 5, none⟩ = some (.int .i64 a0_5) := (blk_cell BK279.out 5).trans rfl
                have hcz46_6 : wc.cell? ⟨gb279, 6, none⟩ = some (.int .i64 a0_6) := (blk_cell BK279.out 6).trans rfl
                have hcz46_7 : wc.cell? ⟨gb279, 7, none⟩ = some (.int .i64 a0_7) := (blk_cell BK279.out 7).trans rfl
                have hcz46_8 : wc.cell? ⟨gb279, 8, none⟩ = some (.int .i64 a0_8) := (blk_cell BK279.out 8).trans rfl
                have hcz46_9 : wc.cell? ⟨gb279, 9, none⟩ = some (.int .i64 a0_9) := (blk_cell BK279.out 9).trans rfl
                have hcz46_10 : wc.cell? ⟨gb279, 10, none⟩ = some (.int .i64 a0_10) := (blk_cell BK279.out 10).trans rfl
                have hfz46_0 := blk_frozen BK279.out 0
                have hfz46_1 := blk_frozen BK279.out 1
                have hfz46_2 := blk_frozen BK279.out 2
                have hfz46_3 := blk_frozen BK279.out 3
                have hfz46_4 := blk_frozen BK279.out 4
                have hfz46_5 := blk_frozen BK279.out 5
                have hfz46_6 := blk_frozen BK279.out 6
                have hfz46_7 := blk_frozen BK279.out 7
                have hfz46_8 := blk_frozen BK279.out 8
                have hfz46_9 := blk_frozen BK279.out 9
                have hfz46_10 := blk_frozen BK279.out 10
                go_wp2_with (first | ((with_reducible refine gate_callee (f := 49) rfl ?_); refine goesL_ (some 88) rfl rfl Try.func49 (by kernel_rfl) rfl #[.agg #[.int .i64 a0_0, .int .i64 a0_1, .int .i64 a0_2, .int .i64 a0_3, .int .i64 a0_4, .int .i64 a0_5, .int .i64 a0_6, .int .i64 a0_7, .int .i64 a0_8, .int .i64 a0_9, .int .i64 a0_10]] rfl (by (try simp only [List.map_toArray, List.map_cons, List.map_nil]); first | done | rfl | (simp only [List.length_drop, List.length_take]; rfl)) ?_; (with_reducible refine (gatelineref09_place.calls a0_0 a0_1 a0_2 a0_3 a0_4 a0_5 a0_6 a0_7 a0_8 a0_9 a0_10 false _ A39.out).mono ?_); rintro e w47 ⟨rfl, hb⟩; refine ⟨_, rfl, ?_⟩; have n0_ := Aside0.mk (blk_below (g := gb279) (o := .cells #[.int .i64 a0_0, .int .i64 a0_1, .int .i64 a0_2, .int .i64 a0_3, .int .i64 a0_4, .int .i64 a0_5, .int .i64 a0_6, .int .i64 a0_7, .int .i64 a0_8, .int .i64 a0_9, .int .i64 a0_10] 42 (0, 0)) (by (with_reducible repeat (first | refine blk_drewN ?_ _ | refine blk_drew ?_ | refine blk_alloc ?_ _)); exact BK279.out) hb); have n1_ := Aside0.mk (below_step (by repeat (first | (with_reducible first | exact HB.out | apply below_alloc | apply pw_below_drewN | apply below_drew1 | refine below_set ?_ GE279.out) | exact HB.out)) hb); clear BK279; clear HB; have BK279 := n0_; have HB := n1_; clear n0_ n1_; (try clear hb); (try clear hb2); (try clear hk); (try clear hi); (try clear A39)))
                go_ret
                exact ⟨by first | rfl | (simp [errW_none, errW_some] <;> rfl) | (simp [*, errW_none, errW_some] <;> rfl), by repeat (first | (with_reducible first | exact HB.out | apply below_alloc | apply pw_below_drewN | apply below_drew1 | refine below_set ?_ GE279.out) | exact HB.out)⟩

end Go.Proofs.Ytekgienbhpknlaa.PL
end
section
namespace Go.Proofs.Ytekgienbhpknlaa.Pure
open Go Go.RowKit Go.Proofs.Ytekgienbhpknlaa.G Go.Proofs.Ytekgienbhpknlaa.PL Go.Proofs.YtekgienbhpknlaaW.PrintWords Go.Proofs.YtekgienbhpknlaaW.PrintLast Go.Proofs.YtekgienbhpknlaaW.PrintMore
theorem mn_def (a b : Int) : mn a b = if b < a then b else a := rfl
theorem mx_def (a b : Int) : mx a b = if a < b then b else a := rfl
theorem refLis_f (s : Int) : gatelineref07_Is.f s = some (lisB s) := by
  unfold gatelineref07_Is.f lisB
  by_cases h : s ≥ 0
  · rw [if_pos h]
    congr 1
    exact decide_eq_decide.2 (by omega)
  · rw [if_neg h]
    congr 1
    exact (decide_eq_false (by omega)).symm
def placeB (x1 x2 x3 : Int) : Bool := if x1 = 3 then zonesB x2 x3 else wayB x2 x3
def plainP (x0 x1 x4 x5 x6 x7 x8 x10 : Int) : Prop := 1 ≤ x0 ∧ x0 ≤ 1099511627776 ∧ 1 ≤ x1 ∧ x1 ≤ 4 ∧ 1 ≤ x4 ∧ x4 ≤ 2 ∧ 0 ≤ x5 ∧ x5 ≤ 3 ∧ 0 ≤ x6 ∧ x6 ≤ 999 ∧ 0 ≤ x7 ∧ x7 ≤ 99999 ∧ 1 ≤ x8 ∧ x8 ≤ 999 ∧ x7 + x8 ≤ 100000 ∧ 0 ≤ x10 ∧ x10 ≤ 9
theorem isB_iff (x0 x1 x2 x3 x4 x5 x6 x7 x8 x9 x10 : Int) : isB x0 x1 x2 x3 x4 x5 x6 x7 x8 x9 x10 = true ↔ plainP x0 x1 x4 x5 x6 x7 x8 x10 ∧ placeB x1 x2 x3 = true ∧ usesB x1 x9 = true := by
  unfold isB plainP placeB
  simp only [betw, Bool.and_eq_true, decide_eq_true_eq]
  constructor
  · rintro ⟨⟨⟨⟨⟨⟨⟨⟨⟨⟨h0, h1⟩, h2⟩, h3⟩, h4⟩, h5⟩, h6⟩, h7⟩, h8⟩, h9⟩, h10⟩
    exact ⟨by omega, h9, h10⟩
  · rintro ⟨h, h9, h10⟩
    exact ⟨⟨⟨⟨⟨⟨⟨⟨⟨⟨by omega, by omega⟩, by omega⟩, by omega⟩, by omega⟩, by omega⟩, by omega⟩, by omega⟩, by omega⟩, h9⟩, h10⟩
theorem isB_no (x0 x1 x2 x3 x4 x5 x6 x7 x8 x9 x10 : Int) (h : ¬ plainP x0 x1 x4 x5 x6 x7 x8 x10) : isB x0 x1 x2 x3 x4 x5 x6 x7 x8 x9 x10 = false := Bool.eq_false_iff.2 fun hh => h ((isB_iff x0 x1 x2 x3 x4 x5 x6 x7 x8 x9 x10).1 hh).1
theorem isB_plain (x0 x1 x2 x3 x4 x5 x6 x7 x8 x9 x10 : Int) (h : plainP x0 x1 x4 x5 x6 x7 x8 x10) : isB x0 x1 x2 x3 x4 x5 x6 x7 x8 x9 x10 = (placeB x1 x2 x3 && usesB x1 x9) := by
  rw [Bool.eq_iff_iff, isB_iff, Bool.and_eq_true]
  exact ⟨fun hh => hh.2, fun hh => ⟨h, hh⟩⟩
theorem place_f (x0 x1 x2 x3 x4 x5 x6 x7 x8 x9 x10 : Int) : gatelineref09_place.f x0 x1 x2 x3 x4 x5 x6 x7 x8 x9 x10 = some (placeB x1 x2 x3) := by
  unfold gatelineref09_place.f placeB zonesB wayB
  by_cases h : x1 = 3
  · rw [if_pos h, if_pos h]
    by_cases h1 : x2 ≥ 1
    · rw [if_pos h1]
      by_cases h2 : x2 ≤ x3
      · rw [if_pos h2]
        congr 1
        rw [Bool.eq_iff_iff]
        simp only [betw, Bool.and_eq_true, decide_eq_true_eq]
        omega
      · rw [if_neg h2]
        congr 1
        symm
        rw [Bool.eq_false_iff]
        simp only [betw, ne_eq, Bool.and_eq_true, decide_eq_true_eq]
        omega
    · rw [if_neg h1]
      congr 1
      symm
      rw [Bool.eq_false_iff]
      simp only [betw, ne_eq, Bool.and_eq_true, decide_eq_true_eq]
      omega
  · rw [if_neg h, if_neg h, refLis_f, Option.bind_some, refLis_f]
    cases lisB x2 <;> cases lisB x3 <;> rfl
theorem uses_f (x0 x1 x2 x3 x4 x5 x6 x7 x8 x9 x10 : Int) (h1 : 1 ≤ x1) (h4 : x1 ≤ 4) : gatelineref09_uses.f x0 x1 x2 x3 x4 x5 x6 x7 x8 x9 x10 = some (usesB x1 x9) := by
  unfold gatelineref09_uses.f usesB
  rcases (by omega : x1 = 1 ∨ x1 = 2 ∨ x1 = 3 ∨ x1 = 4) with rfl | rfl | rfl | rfl
  · rfl
  · rfl
  · rfl
  · rw [if_pos rfl]
    show (if x9 ≥ 2 then some (decide (x9 ≤ 20)) else some false) = some (betw x9 2 20)
    by_cases h : x9 ≥ 2
    · rw [if_pos h]
      congr 1
      rw [Bool.eq_iff_iff]
      simp only [betw, decide_eq_true_eq]
      omega
    · rw [if_neg h]
      congr 1
      symm
      rw [Bool.eq_false_iff]
      simp only [betw, ne_eq, decide_eq_true_eq]
      omega
theorem refIs_j1 (k : Nat) (x0 x1 x2 x3 x4 x5 x6 x7 x8 x9 x10 : Int) : gatelineref09_Is.j1 (k + 1) true x0 x1 x2 x3 x4 x5 x6 x7 x8 x9 x10 = some false := by
  rw [gatelineref09_Is.j1, if_pos rfl]
theorem refIs_j0 (k : Nat) (x0 x1 x2 x3 x4 x5 x6 x7 x8 x9 x10 : Int) : gatelineref09_Is.j0 (k + 1) true x0 x1 x2 x3 x4 x5 x6 x7 x8 x9 x10 = some false := by
  rw [gatelineref09_Is.j0, if_pos rfl]
theorem refIs_f (k : Nat) (x0 x1 x2 x3 x4 x5 x6 x7 x8 x9 x10 : Int) : gatelineref09_Is.f (k + 1 + 1) x0 x1 x2 x3 x4 x5 x6 x7 x8 x9 x10 = some (isB x0 x1 x2 x3 x4 x5 x6 x7 x8 x9 x10) := by
  unfold gatelineref09_Is.f
  by_cases c_0 : x0 < 1
  · rw [if_pos c_0, refIs_j0, isB_no x0 x1 x2 x3 x4 x5 x6 x7 x8 x9 x10 (by unfold plainP; omega)]
  rw [if_neg c_0]
  by_cases c_1 : x0 > 1099511627776
  · rw [if_pos c_1, refIs_j0, isB_no x0 x1 x2 x3 x4 x5 x6 x7 x8 x9 x10 (by unfold plainP; omega)]
  rw [if_neg c_1]
  by_cases c_2 : x1 < 1
  · rw [if_pos c_2, refIs_j0, isB_no x0 x1 x2 x3 x4 x5 x6 x7 x8 x9 x10 (by unfold plainP; omega)]
  rw [if_neg c_2]
  by_cases c_3 : x1 > 4
  · rw [if_pos c_3, refIs_j0, isB_no x0 x1 x2 x3 x4 x5 x6 x7 x8 x9 x10 (by unfold plainP; omega)]
  rw [if_neg c_3]
  by_cases c_4 : x4 < 1
  · rw [if_pos c_4, refIs_j0, isB_no x0 x1 x2 x3 x4 x5 x6 x7 x8 x9 x10 (by unfold plainP; omega)]
  rw [if_neg c_4]
  by_cases c_5 : x4 > 2
  · rw [if_pos c_5, refIs_j0, isB_no x0 x1 x2 x3 x4 x5 x6 x7 x8 x9 x10 (by unfold plainP; omega)]
  rw [if_neg c_5]
  by_cases c_6 : x5 < 0
  · rw [if_pos c_6, refIs_j0, isB_no x0 x1 x2 x3 x4 x5 x6 x7 x8 x9 x10 (by unfold plainP; omega)]
  rw [if_neg c_6]
  by_cases c_7 : x5 > 3
  · rw [if_pos c_7, refIs_j0, isB_no x0 x1 x2 x3 x4 x5 x6 x7 x8 x9 x10 (by unfold plainP; omega)]
  rw [if_neg c_7]
  by_cases c_8 : x6 < 0
  · rw [if_pos c_8, refIs_j0, isB_no x0 x1 x2 x3 x4 x5 x6 x7 x8 x9 x10 (by unfold plainP; omega)]
  rw [if_neg c_8]
  by_cases d0 : x6 > 999
  · rw [decide_eq_true d0, refIs_j0, isB_no x0 x1 x2 x3 x4 x5 x6 x7 x8 x9 x10 (by unfold plainP; omega)]
  rw [decide_eq_false d0, gatelineref09_Is.j0, if_neg (by decide)]
  by_cases c_9 : x7 < 0
  · rw [if_pos c_9, refIs_j1, isB_no x0 x1 x2 x3 x4 x5 x6 x7 x8 x9 x10 (by unfold plainP; omega)]
  rw [if_neg c_9]
  by_cases c_10 : x7 > 99999
  · rw [if_pos c_10, refIs_j1, isB_no x0 x1 x2 x3 x4 x5 x6 x7 x8 x9 x10 (by unfold plainP; omega)]
  rw [if_neg c_10]
  by_cases c_11 : x8 < 1
  · rw [if_pos c_11, refIs_j1, isB_no x0 x1 x2 x3 x4 x5 x6 x7 x8 x9 x10 (by unfold plainP; omega)]
  rw [if_neg c_11]
  by_cases c_12 : x8 > 999
  · rw [if_pos c_12, refIs_j1, isB_no x0 x1 x2 x3 x4 x5 x6 x7 x8 x9 x10 (by unfold plainP; omega)]
  rw [if_neg c_12]
  rw [w64 (x := x7 + x8) (by omega) (by omega)]
  by_cases c_13 : x7 + x8 > 100000
  · rw [if_pos c_13, refIs_j1, isB_no x0 x1 x2 x3 x4 x5 x6 x7 x8 x9 x10 (by unfold plainP; omega)]
  rw [if_neg c_13]
  by_cases c_14 : x10 < 0
  · rw [if_pos c_14, refIs_j1, isB_no x0 x1 x2 x3 x4 x5 x6 x7 x8 x9 x10 (by unfold plainP; omega)]
  rw [if_neg c_14]
  by_cases d1 : x10 > 9
  · rw [decide_eq_true d1, refIs_j1, isB_no x0 x1 x2 x3 x4 x5 x6 x7 x8 x9 x10 (by unfold plainP; omega)]
  rw [decide_eq_false d1, gatelineref09_Is.j1, if_neg (by decide), place_f, Option.bind_some, uses_f _ _ _ _ _ _ _ _ _ _ _ (by omega) (by omega), isB_plain x0 x1 x2 x3 x4 x5 x6 x7 x8 x9 x10 (by unfold plainP; omega)]
  cases placeB x1 x2 x3 <;> rfl
end Go.Proofs.Ytekgienbhpknlaa.Pure
end
section
set_option linter.unusedVariables false
namespace Go.Proofs.Ytekgienbhpknlaa.Pure
open Go Go.RowKit Go.Proofs.Ytekgienbhpknlaa.Q Go.Proofs.Ytekgienbhpknlaa.G Go.Proofs.Ytekgienbhpknlaa.PL Go.Proofs.YtekgienbhpknlaaW.PrintWords Go.Proofs.YtekgienbhpknlaaW.PrintLast Go.Proofs.YtekgienbhpknlaaW.PrintMore
/-- The number that a tag bears: the uses are told of a carnet alone. -/
def eff (v0 v1 v2 v3 v4 v5 v6 v7 v8 v9 v10 v11 v12 v13 v14 : Int) (tag : Int) : Int := if tag = 12 ∧ v1 ≠ 4 then 0 else numAt v0 v1 v2 v3 v4 v5 v6 v7 v8 v9 v10 v11 v12 v13 v14 tag
def flds (e : Int → Int) : Nat → Int → List SF
  | 0, _ => []
  | d + 1, tag => if e tag = 0 then flds e d (tag + 1) else ⟨tag, (numR (e tag)).1⟩ :: flds e d (tag + 1)
def bad (e : Int → Int) (ver : Int) : Nat → Int → Bool
  | 0, _ => false
  | d + 1, tag => (!decide (e tag = 0) && decide (ver < verT tag)) || bad e ver d (tag + 1)
theorem numR_ok {n : Int} (h : 0 ≤ n) : (numR n).2 = 0 := by unfold numR; rw [if_neg (by omega)]
theorem fputL_eq (v0 v1 v2 v3 v4 v5 v6 v7 v8 v9 v10 v11 v12 v13 v14 : Int) : ∀ (d : Nat) (tag : Int) (out : List SF), (∀ t, tag ≤ t → t < tag + d → 0 ≤ eff v0 v1 v2 v3 v4 v5 v6 v7 v8 v9 v10 v11 v12 v13 v14 t) →
    fputL v0 v1 v2 v3 v4 v5 v6 v7 v8 v9 v10 v11 v12 v13 v14 d tag out = if bad (eff v0 v1 v2 v3 v4 v5 v6 v7 v8 v9 v10 v11 v12 v13 v14) v14 d tag = true then ([], 18) else (out ++ flds (eff v0 v1 v2 v3 v4 v5 v6 v7 v8 v9 v10 v11 v12 v13 v14) d tag, 0)
  | 0, tag, out, _ => by simp [fputL, bad, flds]
  | d + 1, tag, out, h => by
    have ih := fun out' => fputL_eq v0 v1 v2 v3 v4 v5 v6 v7 v8 v9 v10 v11 v12 v13 v14 d (tag + 1) out' (fun t h1 h2 => h t (by omega) (by omega))
    rw [fputL]
    by_cases h0 : eff v0 v1 v2 v3 v4 v5 v6 v7 v8 v9 v10 v11 v12 v13 v14 tag = 0
    · have h1 : numAt v0 v1 v2 v3 v4 v5 v6 v7 v8 v9 v10 v11 v12 v13 v14 tag = 0 ∨ tag = 12 ∧ v1 ≠ 4 := by
        unfold eff at h0
        split at h0
        · rename_i hc; exact .inr hc
        · exact .inl h0
      rw [if_pos h1, ih out, bad, flds, if_pos h0]
      simp [h0]
    · have h1 : ¬ (numAt v0 v1 v2 v3 v4 v5 v6 v7 v8 v9 v10 v11 v12 v13 v14 tag = 0 ∨ tag = 12 ∧ v1 ≠ 4) := by
        unfold eff at h0
        split at h0
        · exact absurd rfl h0
        · rename_i hc
          rintro (h1 | h1)
          · exact h0 h1
          · exact hc h1
      have he : numAt v0 v1 v2 v3 v4 v5 v6 v7 v8 v9 v10 v11 v12 v13 v14 tag = eff v0 v1 v2 v3 v4 v5 v6 v7 v8 v9 v10 v11 v12 v13 v14 tag := (if_neg (fun hh => h1 (.inr hh))).symm
      rw [if_neg h1, he, bad, flds, if_neg h0]
      by_cases hv : v14 < verT tag
      · rw [if_pos hv]; simp [h0, hv]
      · rw [if_neg hv, if_pos (numR_ok (h tag (by omega) (by omega))), ih]
        simp [h0, hv, List.append_assoc]
def okR (v0 v1 v2 v3 v4 v5 v6 v7 v8 v9 v10 v11 v12 v13 v14 : Int) : Prop := isB v0 v1 v2 v3 v4 v5 v6 v7 v8 v9 v10 = true ∧ 0 ≤ v11 ∧ v11 < 100 ∧ v12 = 0 ∧ v13 = 0 ∧ 1 ≤ v14 ∧ v14 ≤ 3
theorem isB_bounds {v0 v1 v2 v3 v4 v5 v6 v7 v8 v9 v10 : Int} (h : isB v0 v1 v2 v3 v4 v5 v6 v7 v8 v9 v10 = true) : (1 ≤ v0 ∧ v0 ≤ 1099511627776) ∧ (1 ≤ v1 ∧ v1 ≤ 4) ∧ (0 ≤ v2 ∧ v2 ≤ 40) ∧ (0 ≤ v3 ∧ v3 ≤ 40) ∧ (1 ≤ v4 ∧ v4 ≤ 2) ∧ (0 ≤ v5 ∧ v5 ≤ 3) ∧ (0 ≤ v6 ∧ v6 ≤ 999) ∧ (0 ≤ v7 ∧ v7 ≤ 99999) ∧ (1 ≤ v8 ∧ v8 ≤ 999) ∧ (0 ≤ v9 ∧ v9 ≤ 20) ∧ (0 ≤ v10 ∧ v10 ≤ 9) := by
  obtain ⟨hp, hl, hu⟩ := (isB_iff v0 v1 v2 v3 v4 v5 v6 v7 v8 v9 v10).1 h
  unfold plainP at hp
  have h2 : (0 ≤ v2 ∧ v2 ≤ 40) ∧ (0 ≤ v3 ∧ v3 ≤ 40) := by
    unfold placeB at hl
    split at hl
    · simp only [zonesB, betw, Bool.and_eq_true, decide_eq_true_eq] at hl; omega
    · simp only [wayB, lisB, Bool.and_eq_true, decide_eq_true_eq] at hl; omega
  have h9 : 0 ≤ v9 ∧ v9 ≤ 20 := by
    unfold usesB at hu
    split at hu
    · rw [beq_iff_eq] at hu; omega
    · split at hu
      · rw [beq_iff_eq] at hu; omega
      · split at hu
        · rw [beq_iff_eq] at hu; omega
        · simp only [betw, decide_eq_true_eq] at hu; omega
  exact ⟨by omega, by omega, h2.1, h2.2, by omega, by omega, by omega, by omega, by omega, h9, by omega⟩
theorem eff_bounds {v0 v1 v2 v3 v4 v5 v6 v7 v8 v9 v10 v11 v12 v13 v14 : Int} (h : okR v0 v1 v2 v3 v4 v5 v6 v7 v8 v9 v10 v11 v12 v13 v14) (tag : Int) (h1 : 1 ≤ tag) (h2 : tag ≤ 13) : 0 ≤ eff v0 v1 v2 v3 v4 v5 v6 v7 v8 v9 v10 v11 v12 v13 v14 tag ∧ eff v0 v1 v2 v3 v4 v5 v6 v7 v8 v9 v10 v11 v12 v13 v14 tag ≤ 1099511627776 := by
  obtain ⟨hb, hk0, hk1, _, _, hv0, hv1⟩ := h
  have hb := isB_bounds hb
  unfold eff
  split
  · omega
  · have : tag = 1 ∨ tag = 2 ∨ tag = 3 ∨ tag = 4 ∨ tag = 5 ∨ tag = 6 ∨ tag = 7 ∨ tag = 8 ∨ tag = 9 ∨ tag = 10 ∨ tag = 11 ∨ tag = 12 ∨ tag = 13 := by omega
    rcases this with rfl | rfl | rfl | rfl | rfl | rfl | rfl | rfl | rfl | rfl | rfl | rfl | rfl <;> simp only [numAt] <;> simp <;> omega
theorem fput_ok_eq {v0 v1 v2 v3 v4 v5 v6 v7 v8 v9 v10 v11 v12 v13 v14 : Int} (h : okR v0 v1 v2 v3 v4 v5 v6 v7 v8 v9 v10 v11 v12 v13 v14) : fputR v0 v1 v2 v3 v4 v5 v6 v7 v8 v9 v10 v11 v12 v13 v14 = if bad (eff v0 v1 v2 v3 v4 v5 v6 v7 v8 v9 v10 v11 v12 v13 v14) v14 13 1 = true then ([], 18) else (flds (eff v0 v1 v2 v3 v4 v5 v6 v7 v8 v9 v10 v11 v12 v13 v14) 13 1, 0) := by
  rw [fputR, if_pos (show isB v0 v1 v2 v3 v4 v5 v6 v7 v8 v9 v10 = true ∧ 0 ≤ v11 ∧ v11 < 100 ∧ v12 = 0 ∧ v13 = 0 ∧ 1 ≤ v14 ∧ v14 ≤ 3 from h), fputL_eq v0 v1 v2 v3 v4 v5 v6 v7 v8 v9 v10 v11 v12 v13 v14 13 1 [] (fun t h1 h2 => (eff_bounds h t h1 (by omega)).1), List.nil_append]
theorem fput_no_eq {v0 v1 v2 v3 v4 v5 v6 v7 v8 v9 v10 v11 v12 v13 v14 : Int} (h : ¬ okR v0 v1 v2 v3 v4 v5 v6 v7 v8 v9 v10 v11 v12 v13 v14) : fputR v0 v1 v2 v3 v4 v5 v6 v7 v8 v9 v10 v11 v12 v13 v14 = ([], 1) := if_neg h
theorem fput_yes {v0 v1 v2 v3 v4 v5 v6 v7 v8 v9 v10 v11 v12 v13 v14 : Int} (h : (fputR v0 v1 v2 v3 v4 v5 v6 v7 v8 v9 v10 v11 v12 v13 v14).2 = 0) : okR v0 v1 v2 v3 v4 v5 v6 v7 v8 v9 v10 v11 v12 v13 v14 ∧ bad (eff v0 v1 v2 v3 v4 v5 v6 v7 v8 v9 v10 v11 v12 v13 v14) v14 13 1 = false ∧ (fputR v0 v1 v2 v3 v4 v5 v6 v7 v8 v9 v10 v11 v12 v13 v14).1 = flds (eff v0 v1 v2 v3 v4 v5 v6 v7 v8 v9 v10 v11 v12 v13 v14) 13 1 := by
  by_cases hk : okR v0 v1 v2 v3 v4 v5 v6 v7 v8 v9 v10 v11 v12 v13 v14
  · rw [fput_ok_eq hk] at h ⊢
    by_cases hb : bad (eff v0 v1 v2 v3 v4 v5 v6 v7 v8 v9 v10 v11 v12 v13 v14) v14 13 1 = true
    · rw [if_pos hb] at h; exact absurd h (by decide)
    · rw [if_neg hb]; exact ⟨hk, by simpa using hb, rfl⟩
  · rw [fput_no_eq hk] at h; exact absurd h (by decide)
theorem flds_values (e : Int → Int) : ∀ (d : Nat) (tag : Int), ∀ f ∈ flds e d tag, tag ≤ f.f0 ∧ f.f0 < tag + d ∧ e f.f0 ≠ 0 ∧ f.f1 = (numR (e f.f0)).1
  | 0, tag, f, hf => by cases hf
  | d + 1, tag, f, hf => by
    rw [flds] at hf
    split at hf
    · have := flds_values e d (tag + 1) f hf
      exact ⟨by omega, by omega, this.2.2⟩
    · rename_i h0
      rcases List.mem_cons.1 hf with rfl | hf
      · exact ⟨Int.le_refl _, by simp only; omega, h0, rfl⟩
      · have := flds_values e d (tag + 1) f hf
        exact ⟨by omega, by omega, this.2.2⟩
theorem flds_length (e : Int → Int) : ∀ (d : Nat) (tag : Int), (flds e d tag).length ≤ d
  | 0, tag => by simp [flds]
  | d + 1, tag => by
    have := flds_length e d (tag + 1)
    rw [flds]
    split
    · omega
    · rw [List.length_cons]; omega
theorem flds_congr {e e' : Int → Int} : ∀ (d : Nat) (tag : Int), (∀ t, tag ≤ t → t < tag + d → e t = e' t) → flds e d tag = flds e' d tag
  | 0, tag, _ => rfl
  | d + 1, tag, h => by
    rw [flds, flds, h tag (by omega) (by omega), flds_congr d (tag + 1) (fun t h1 h2 => h t (by omega) (by omega))]
theorem bad_congr {e e' : Int → Int} {ver ver' : Int} : ∀ (d : Nat) (tag : Int), (∀ t, tag ≤ t → t < tag + d → e t = e' t) → ver ≤ ver' → bad e ver d tag = false → bad e' ver' d tag = false
  | 0, tag, _, _, _ => rfl
  | d + 1, tag, h, hv, hb => by
    rw [bad, Bool.or_eq_false_iff] at hb ⊢
    refine ⟨?_, bad_congr d (tag + 1) (fun t h1 h2 => h t (by omega) (by omega)) hv hb.2⟩
    rw [← h tag (by omega) (by omega)]
    have h1 := hb.1
    simp only [Bool.and_eq_false_iff, Bool.not_eq_false', decide_eq_true_eq, decide_eq_false_iff_not] at h1 ⊢
    omega
theorem fputR_short (v0 v1 v2 v3 v4 v5 v6 v7 v8 v9 v10 v11 v12 v13 v14 : Int) : (fputR v0 v1 v2 v3 v4 v5 v6 v7 v8 v9 v10 v11 v12 v13 v14).1.length ≤ 13 ∧ ∀ x ∈ (fputR v0 v1 v2 v3 v4 v5 v6 v7 v8 v9 v10 v11 v12 v13 v14).1, x.f1.length ≤ 8 := by
  by_cases hk : okR v0 v1 v2 v3 v4 v5 v6 v7 v8 v9 v10 v11 v12 v13 v14
  · rw [fput_ok_eq hk]
    split
    · exact ⟨by simp, fun x hx => by cases hx⟩
    · exact ⟨flds_length _ _ _, fun x hx => by rw [(flds_values _ _ _ x hx).2.2.2]; exact numR_length _⟩
  · rw [fput_no_eq hk]; exact ⟨by simp, fun x hx => by cases hx⟩
theorem same_put (v0 v1 v2 v3 v4 v5 v6 v7 v8 v9 v10 v11 v12 v13 v14 : Int) (l : List SF) : Ev (fun k => gatelineref17_Same.f k (fputR v0 v1 v2 v3 v4 v5 v6 v7 v8 v9 v10 v11 v12 v13 v14).1 l) (decide ((fputR v0 v1 v2 v3 v4 v5 v6 v7 v8 v9 v10 v11 v12 v13 v14).1 = l)) :=
  same17_ev _ l 8 (by decide) (by have := (fputR_short v0 v1 v2 v3 v4 v5 v6 v7 v8 v9 v10 v11 v12 v13 v14).1; omega) (fputR_short v0 v1 v2 v3 v4 v5 v6 v7 v8 v9 v10 v11 v12 v13 v14).2
end Go.Proofs.Ytekgienbhpknlaa.Pure
end
