-- Written by the kit's print program with contracts that this session proved by hand given to it. Not trusted: Lean checks it.
import Derived.Test.YtdiijjdhofaodaaPLx0
import Derived.Test.YtdiijjdhofaodaaPLx1
import Derived.Test.YtdiijjdhofaodaaPLx2
import Derived.Test.YtdiijjdhofaodaaPLx5
import Derived.Test.YtdiijjdhofaodaaPLx8
namespace Go.Proofs.Ytdiijjdhofaodaa.PL
open Go.RowKit Go.Proofs.YtdiijjdhofaodaaW.PrintWords Go.Proofs.YtdiijjdhofaodaaW.PrintLast Go.Proofs.YtdiijjdhofaodaaW.PrintMore
attribute [local go_sem] max2_int min2_int max_two min_two max_three min_three max_four min_four   -- for this text's walks alone
set_option linter.unusedVariables false
set_option linter.unusedSimpArgs false

/-! ### line_Stations: function 34 (a contract proved by hand) -/
def line_Stations.f (a0 a1 : Int) : Option (List Int × Int) := some (G.stationsR a0 a1)
theorem line_Stations.calls (a0 : Int) (a1 : Int) (r1 : List Int) (r2 : Int) (w : World) (h : line_Stations.f a0 a1 = some (r1, r2)) : Calls Try.prog 34 #[.int .i64 a0, .int .i64 a1] w fun e w' => ∃ v0_ : Value, e = .returned (.tuple #[v0_, .int .i64 r2]) ∧ Kd.R (Kd.int .i64) 3 w' w.heap.size (fun _ => True) v0_ r1 ∧ Below w.heap.size w w' := by
  unfold line_Stations.f at h
  rw [Option.some.injEq] at h
  have hc := G.stations_all a0 a1 w
  rw [h] at hc
  exact hc

/-! ### gatelinelaw09_TicketWay: function 10 -/
def gatelinelaw09_TicketWay.l0 : Nat → Int → Int → Int → Int → Int → Int → Int → Int → Int → Int → Int → Int → Int → Option (Bool)
  | 0, _, _, _, _, _, _, _, _, _, _, _, _, _ => none
  | k + 1, x3, x4, x298000, x298001, x298002, x298003, x298004, x298005, x298006, x298007, x298008, x298009, x298010 => if x4 < 40 then ((ticket_Covers.f x298000 x298001 x298002 x298003 x298004 x298005 x298006 x298007 x298008 x298009 x298010 x4).bind fun bt300 => (if bt300.2 = 0 then (if bt300.1 = true then (gatelinelaw09_TicketWay.l0 k (wrap64 (x3 + 1)) (wrap64 (x4 + 1)) x298000 x298001 x298002 x298003 x298004 x298005 x298006 x298007 x298008 x298009 x298010) else (gatelinelaw09_TicketWay.l0 k x3 (wrap64 (x4 + 1)) x298000 x298001 x298002 x298003 x298004 x298005 x298006 x298007 x298008 x298009 x298010)) else (some false))) else (if x298001 = 3 then ((line_Stations.f x298002 x298003).bind fun bt302 => ((gatelinelaw09_sold.f k).bind fun t306 => (if t306 = true then (if bt302.2 = 0 then (some ((bt302.1.length : Int) == x3)) else (some false)) else (some false)))) else ((ticket_Covers.f x298000 x298001 x298002 x298003 x298004 x298005 x298006 x298007 x298008 x298009 x298010 x298002).bind fun bt307 => ((ticket_Covers.f x298000 x298001 x298002 x298003 x298004 x298005 x298006 x298007 x298008 x298009 x298010 x298003).bind fun bt309 => ((gatelinelaw09_sold.f k).bind fun t311 => (if t311 = true then (if bt307.2 = 0 then (if bt309.2 = 0 then (if bt307.1 = true then (if bt309.1 = true then (if x3 = (wrap64 ((wrap64 (x298003 - x298002)) + 1)) then (some true) else (some (x3 == (wrap64 ((wrap64 (x298002 - x298003)) + 1))))) else (some false)) else (some false)) else (some false)) else (some false)) else (some false))))))
def gatelinelaw09_TicketWay.f (k : Nat) (a0_0 : Int) (a0_1 : Int) (a0_2 : Int) (a0_3 : Int) (a0_4 : Int) (a0_5 : Int) (a0_6 : Int) (a0_7 : Int) (a0_8 : Int) (a0_9 : Int) (a0_10 : Int) : Option (Bool) := (ticket_Is.f a0_0 a0_1 a0_2 a0_3 a0_4 a0_5 a0_6 a0_7 a0_8 a0_9 a0_10).bind fun t298 => (if t298 = true then (gatelinelaw09_TicketWay.l0 k 0 0 a0_0 a0_1 a0_2 a0_3 a0_4 a0_5 a0_6 a0_7 a0_8 a0_9 a0_10) else ((gatelinelaw09_sold.f k).bind fun t299 => (some t299)))
theorem gatelinelaw09_TicketWay.mono_l : ∀ k, (∀ y0 y1 y2 y3 y4 y5 y6 y7 y8 y9 y10 y11 y12, LeO (gatelinelaw09_TicketWay.l0 k y0 y1 y2 y3 y4 y5 y6 y7 y8 y9 y10 y11 y12) (gatelinelaw09_TicketWay.l0 (k + 1) y0 y1 y2 y3 y4 y5 y6 y7 y8 y9 y10 y11 y12))
  | 0 => fun _ _ _ _ _ _ _ _ _ _ _ _ _ r h => by simp [gatelinelaw09_TicketWay.l0] at h
  | k + 1 => by
    have ih0 := gatelinelaw09_TicketWay.mono_l k
    · intro y0 y1 y2 y3 y4 y5 y6 y7 y8 y9 y10 y11 y12
      unfold gatelinelaw09_TicketWay.l0
      repeat' first
      | (with_reducible exact ih0 _ _ _ _ _ _ _ _ _ _ _ _ _)
      | (with_reducible exact gatelinelaw09_sold.mono _)
      | (with_reducible exact LeO.refl _)
      | (with_reducible exact LeO.none _)
      | (with_reducible refine LeO.ite ?_ ?_)
      | (with_reducible refine LeO.bind ?_ (fun _ => ?_))
      | exact ih0 _ _ _ _ _ _ _ _ _ _ _ _ _
      | exact gatelinelaw09_sold.mono _
      | exact LeO.none _
      | refine LeO.ite ?_ ?_
      | refine LeO.bind ?_ (fun _ => ?_)
theorem gatelinelaw09_TicketWay.mono : ∀ a0 a1 a2 a3 a4 a5 a6 a7 a8 a9 a10 k, LeO (gatelinelaw09_TicketWay.f k a0 a1 a2 a3 a4 a5 a6 a7 a8 a9 a10) (gatelinelaw09_TicketWay.f (k + 1) a0 a1 a2 a3 a4 a5 a6 a7 a8 a9 a10) := by
  intro a0 a1 a2 a3 a4 a5 a6 a7 a8 a9 a10 k
  have ih0 := gatelinelaw09_TicketWay.mono_l k
  unfold gatelinelaw09_TicketWay.f
  repeat' first
      | (with_reducible exact ih0 _ _ _ _ _ _ _ _ _ _ _ _ _)
      | (with_reducible exact gatelinelaw09_sold.mono _)
      | (with_reducible exact LeO.refl _)
      | (with_reducible exact LeO.none _)
      | (with_reducible refine LeO.ite ?_ ?_)
      | (with_reducible refine LeO.bind ?_ (fun _ => ?_))
      | exact ih0 _ _ _ _ _ _ _ _ _ _ _ _ _
      | exact gatelinelaw09_sold.mono _
      | exact LeO.none _
      | refine LeO.ite ?_ ?_
      | refine LeO.bind ?_ (fun _ => ?_)
set_option maxHeartbeats 8000000 in
set_option maxRecDepth 100000 in
theorem gatelinelaw09_TicketWay.calls (k : Nat) (a0_0 : Int) (a0_1 : Int) (a0_2 : Int) (a0_3 : Int) (a0_4 : Int) (a0_5 : Int) (a0_6 : Int) (a0_7 : Int) (a0_8 : Int) (a0_9 : Int) (a0_10 : Int) (r : Bool) (w : World) (h : gatelinelaw09_TicketWay.f k a0_0 a0_1 a0_2 a0_3 a0_4 a0_5 a0_6 a0_7 a0_8 a0_9 a0_10 = some r) :
    Calls Try.prog 10 #[.agg #[.int .i64 a0_0, .int .i64 a0_1, .int .i64 a0_2, .int .i64 a0_3, .int .i64 a0_4, .int .i64 a0_5, .int .i64 a0_6, .int .i64 a0_7, .int .i64 a0_8, .int .i64 a0_9, .int .i64 a0_10]] w fun e w' => e = .returned (.bool r) ∧ Below w.heap.size w w' := by
  have hu23 := Try.underlying23
  have HB := Aside0.mk (Below.refl w.heap.size w)
  have H : ((ticket_Is.f a0_0 a0_1 a0_2 a0_3 a0_4 a0_5 a0_6 a0_7 a0_8 a0_9 a0_10).bind fun t298 => (if t298 = true then (gatelinelaw09_TicketWay.l0 k 0 0 a0_0 a0_1 a0_2 a0_3 a0_4 a0_5 a0_6 a0_7 a0_8 a0_9 a0_10) else ((gatelinelaw09_sold.f k).bind fun t299 => (some t299)))) = some r := h
  clear h
  replace H := Option.bind_eq_some_iff.mp H
  obtain ⟨t298, A20, H⟩ := H
  replace H : (if t298 = true then (gatelinelaw09_TicketWay.l0 k 0 0 a0_0 a0_1 a0_2 a0_3 a0_4 a0_5 a0_6 a0_7 a0_8 a0_9 a0_10) else ((gatelinelaw09_sold.f k).bind fun t299 => (some t299))) = some r := H
  have A2 := Aside0.mk A20
  clear A20
  by_cases c3 : t298 = true
  · subst c3
    have H1 : (gatelinelaw09_TicketWay.l0 k 0 0 a0_0 a0_1 a0_2 a0_3 a0_4 a0_5 a0_6 a0_7 a0_8 a0_9 a0_10) = some r := by rw [if_pos rfl] at H; exact H
    clear H
    have H := H1
    clear H1
    have H' := Aside0.mk H
    clear H
    go_enter Try.func10, Try.ntmps10
    go_wp2_with (first | ((with_reducible refine gate_dst (N := 1) rfl ?_); (try (refine gate_guard (by rfl) ?_; dsimp only)); refine box_event ?hg (N := 1) ?hd (cs := #[.int .i64 a0_0, .int .i64 a0_1, .int .i64 a0_2, .int .i64 a0_3, .int .i64 a0_4, .int .i64 a0_5, .int .i64 a0_6, .int .i64 a0_7, .int .i64 a0_8, .int .i64 a0_9, .int .i64 a0_10]) (t := 23) ?hr ?_; (case hd => rfl); (case hg => rfl); (case hr => first | (go_simp; done) | (go_simp; rfl)); intro gb297 hg w4 hbox hb; have n0_ := Aside0.mk (below_step (by repeat (first | (with_reducible first | exact HB.out | apply below_alloc | apply pw_below_drewN | apply below_drew1) | exact HB.out)) hb); have n1_ := Aside0.mk (hbox); have n2_ := Aside0.mk ((by rw [hg]; exact (below_size (by repeat (first | (with_reducible first | exact HB.out | apply below_alloc | apply pw_below_drewN | apply below_drew1) | exact HB.out))) : w.heap.size ≤ gb297)); have n3_ := Aside0.mk ((by rw [hg]; exact (below_size (by repeat (first | (with_reducible first | exact HB.out | apply below_alloc | apply pw_below_drewN | apply below_drew1) | exact HB.out))) : w.heap.size ≤ gb297)); clear HB; have HB := n0_; have BK297 := n1_; have GW297 := n2_; have GE297 := n3_; clear n0_ n1_ n2_ n3_; clear hb hbox hg; have hcz5_0 : w4.cell? ⟨gb297, 0, none⟩ = some (.int .i64 a0_0) := (blk_cell BK297.out 0).trans rfl; have hcz5_1 : w4.cell? ⟨gb297, 1, none⟩ = some (.int .i64 a0_1) := (blk_cell BK297.out 1).trans rfl; have hcz5_2 : w4.cell? ⟨gb297, 2, none⟩ = some (.int .i64 a0_2) := (blk_cell BK297.out 2).trans rfl; have hcz5_3 : w4.cell? ⟨gb297, 3, none⟩ = some (.int .i64 a0_3) := (blk_cell BK297.out 3).trans rfl; have hcz5_4 : w4.cell? ⟨gb297, 4, none⟩ = some (.int .i64 a0_4) := (blk_cell BK297.out 4).trans rfl; have hcz5_5 : w4.cell? ⟨gb297, 5, none⟩ = some (.int .i64 a0_5) := (blk_cell BK297.out 5).trans rfl; have hcz5_6 : w4.cell? ⟨gb297, 6, none⟩ = some (.int .i64 a0_6) := (blk_cell BK297.out 6).trans rfl; have hcz5_7 : w4.cell? ⟨gb297, 7, none⟩ = some (.int .i64 a0_7) := (blk_cell BK297.out 7).trans rfl; have hcz5_8 : w4.cell? ⟨gb297, 8, none⟩ = some (.int .i64 a0_8) := (blk_cell BK297.out 8).trans rfl; have hcz5_9 : w4.cell? ⟨gb297, 9, none⟩ = some (.int .i64 a0_9) := (blk_cell BK297.out 9).trans rfl; have hcz5_10 : w4.cell? ⟨gb297, 10, none⟩ = some (.int .i64 a0_10) := (blk_cell BK297.out 10).trans rfl; have hfz5_0 := blk_frozen BK297.out 0; have hfz5_1 := blk_frozen BK297.out 1; have hfz5_2 := blk_frozen BK297.out 2; have hfz5_3 := blk_frozen BK297.out 3; have hfz5_4 := blk_frozen BK297.out 4; have hfz5_5 := blk_frozen BK297.out 5; have hfz5_6 := blk_frozen BK297.out 6; have hfz5_7 := blk_frozen BK297.out 7; have hfz5_8 := blk_frozen BK297.out 8; have hfz5_9 := blk_frozen BK297.out 9; have hfz5_10 := blk_frozen BK297.out 10) | ((with_reducible refine gate_callee (f := 30) rfl ?_); refine goesL_ (some 14) rfl rfl Try.func30 (by kernel_rfl) rfl #[.agg #[.int .i64 a0_0, .int .i64 a0_1, .int .i64 a0_2, .int .i64 a0_3, .int .i64 a0_4, .int .i64 a0_5, .int .i64 a0_6, .int .i64 a0_7, .int .i64 a0_8, .int .i64 a0_9, .int .i64 a0_10]] rfl (by (try simp only [List.map_toArray, List.map_cons, List.map_nil]); first | done | rfl | (simp only [List.length_drop, List.length_take]; rfl)) ?_; (with_reducible refine (ticket_Is.calls a0_0 a0_1 a0_2 a0_3 a0_4 a0_5 a0_6 a0_7 a0_8 a0_9 a0_10 true _ A2.out).mono ?_); rintro e w6 ⟨rfl, hb⟩; refine ⟨_, rfl, ?_⟩; have n0_ := Aside0.mk (blk_below (g := gb297) (o := .cells #[.int .i64 a0_0, .int .i64 a0_1, .int .i64 a0_2, .int .i64 a0_3, .int .i64 a0_4, .int .i64 a0_5, .int .i64 a0_6, .int .i64 a0_7, .int .i64 a0_8, .int .i64 a0_9, .int .i64 a0_10] 23 (0, 0)) (by (with_reducible repeat (first | refine blk_drewN ?_ _ | refine blk_drew ?_ | refine blk_alloc ?_ _)); exact BK297.out) hb); have n1_ := Aside0.mk (below_step (by repeat (first | (with_reducible first | exact HB.out | apply below_alloc | apply pw_below_drewN | apply below_drew1 | refine below_set ?_ GE297.out) | exact HB.out)) hb); clear BK297; clear HB; have BK297 := n0_; have HB := n1_; clear n0_ n1_; (try clear hb); (try clear hb2); (try clear hk); (try clear hi); (try clear A2)))
    go_loopg [3, 4] k (fun kq v3 v4 w' => ∃ (x3_1 : Int) (x4_1 : Int), v3 = .int .i64 x3_1 ∧ v4 = .int .i64 x4_1 ∧ Aside0 (gatelinelaw09_TicketWay.l0 kq x3_1 x4_1 a0_0 a0_1 a0_2 a0_3 a0_4 a0_5 a0_6 a0_7 a0_8 a0_9 a0_10 = some r) ∧ Aside0 (kq ≤ k) ∧ Aside0 (w'.heap[gb297]? = some (.cells #[.int .i64 a0_0, .int .i64 a0_1, .int .i64 a0_2, .int .i64 a0_3, .int .i64 a0_4, .int .i64 a0_5, .int .i64 a0_6, .int .i64 a0_7, .int .i64 a0_8, .int .i64 a0_9, .int .i64 a0_10] 23 (0, 0))) ∧ Aside0 (Below w.heap.size w w'))
    case atStart => exact ⟨(0), (0), (by first | rfl | (simp; done) | (simp [*]; done)), (by first | rfl | (simp; done) | (simp [*]; done)), H', ⟨Nat.le_refl _⟩, ⟨by (with_reducible repeat (first | refine blk_drewN ?_ _ | refine blk_drew ?_ | refine blk_alloc ?_ _)); exact BK297.out⟩, ⟨by repeat (first | (with_reducible first | exact HB.out | apply below_alloc | apply pw_below_drewN | apply below_drew1 | refine below_set ?_ GE297.out) | exact HB.out)⟩⟩
    case round =>
      clear H'
      try clear c1
      try clear p2
      try clear c3
      try clear hcz5_0
      try clear hcz5_1
      try clear hcz5_10
      try clear hcz5_2
      try clear hcz5_3
      try clear hcz5_4
      try clear hcz5_5
      try clear hcz5_6
      try clear hcz5_7
      try clear hcz5_8
      try clear hcz5_9
      try clear hfz5_0
      try clear hfz5_1
      try clear hfz5_10
      try clear hfz5_2
      try clear hfz5_3
      try clear hfz5_4
      try clear hfz5_5
      try clear hfz5_6
      try clear hfz5_7
      try clear hfz5_8
      try clear hfz5_9
      obtain ⟨x3_1, x4_1, rfl, rfl, HA, HK1, BK297, HB⟩ := hrel
      cases gk with
      | zero => exact absurd HA.out (by simp [gatelinelaw09_TicketWay.l0])
      | succ k1 =>
        have H := HA.out
        clear HA
        simp only [gatelinelaw09_TicketWay.l0] at H
        by_cases c7 : x4_1 < 40
        · rw [if_pos c7] at H
          have c7b0 : decide (x4_1 < 40) = true := decide_eq_true c7
          clear c7
          replace H := Option.bind_eq_some_iff.mp H
          obtain ⟨⟨t300, t301⟩, A80, H⟩ := H
          replace H : (if t301 = 0 then (if t300 = true then (gatelinelaw09_TicketWay.l0 k1 (wrap64 (x3_1 + 1)) (wrap64 (x4_1 + 1)) a0_0 a0_1 a0_2 a0_3 a0_4 a0_5 a0_6 a0_7 a0_8 a0_9 a0_10) else (gatelinelaw09_TicketWay.l0 k1 x3_1 (wrap64 (x4_1 + 1)) a0_0 a0_1 a0_2 a0_3 a0_4 a0_5 a0_6 a0_7 a0_8 a0_9 a0_10)) else (some false)) = some r := H
          have A8 := Aside0.mk A80
          clear A80
          by_cases c9 : t301 = 0
          · rw [if_pos c9] at H
            have c9b0 : (t301 == 0) = true := beq_iff_eq.mpr c9
            have c9b1 : (t301 != 0) = false := bne_eq_false_iff_eq.mpr c9
            clear c9
            by_cases c10 : t300 = true
            · subst c10
              have H1 : (gatelinelaw09_TicketWay.l0 k1 (wrap64 (x3_1 + 1)) (wrap64 (x4_1 + 1)) a0_0 a0_1 a0_2 a0_3 a0_4 a0_5 a0_6 a0_7 a0_8 a0_9 a0_10) = some r := by rw [if_pos rfl] at H; exact H
              clear H
              have H := H1
              clear H1
              have H' := Aside0.mk H
              clear H
              have hcz11_0 : wr.cell? ⟨gb297, 0, none⟩ = some (.int .i64 a0_0) := (blk_cell BK297.out 0).trans rfl
              have hcz11_1 : wr.cell? ⟨gb297, 1, none⟩ = some (.int .i64 a0_1) := (blk_cell BK297.out 1).trans rfl
              have hcz11_2 : wr.cell? ⟨gb297, 2, none⟩ = some (.int .i64 a0_2) := (blk_cell BK297.out 2).trans rfl
              have hcz11_3 : wr.cell? ⟨gb297, 3, none⟩ = some (.int .i64 a0_3) := (blk_cell BK297.out 3).trans rfl
              have hcz11_4 : wr.cell? ⟨gb297, 4, none⟩ = some (.int .i64 a0_4) := (blk_cell BK297.out 4).trans rfl
              have hcz11_5 : wr.cell? ⟨gb297, 5, none⟩ = some (.int .i64 a0_5) := (blk_cell BK297.out 5).trans rfl
              have hcz11_6 : wr.cell? ⟨gb297, 6, none⟩ = some (.int .i64 a0_6) := (blk_cell BK297.out 6).trans rfl
              have hcz11_7 : wr.cell? ⟨gb297, 7, none⟩ = some (.int .i64 a0_7) := (blk_cell BK297.out 7).trans rfl
              have hcz11_8 : wr.cell? ⟨gb297, 8, none⟩ = some (.int .i64 a0_8) := (blk_cell BK297.out 8).trans rfl
              have hcz11_9 : wr.cell? ⟨gb297, 9, none⟩ = some (.int .i64 a0_9) := (blk_cell BK297.out 9).trans rfl
              have hcz11_10 : wr.cell? ⟨gb297, 10, none⟩ = some (.int .i64 a0_10) := (blk_cell BK297.out 10).trans rfl
              have hfz11_0 := blk_frozen BK297.out 0
              have hfz11_1 := blk_frozen BK297.out 1
              have hfz11_2 := blk_frozen BK297.out 2
              have hfz11_3 := blk_frozen BK297.out 3
              have hfz11_4 := blk_frozen BK297.out 4
              have hfz11_5 := blk_frozen BK297.out 5
              have hfz11_6 := blk_frozen BK297.out 6
              have hfz11_7 := blk_frozen BK297.out 7
              have hfz11_8 := blk_frozen BK297.out 8
              have hfz11_9 := blk_frozen BK297.out 9
              have hfz11_10 := blk_frozen BK297.out 10
              go_wp2_with (first | ((with_reducible refine gate_callee (f := 27) rfl ?_); refine goesL_ (some 24) rfl rfl Try.func27 (by kernel_rfl) rfl #[.agg #[.int .i64 a0_0, .int .i64 a0_1, .int .i64 a0_2, .int .i64 a0_3, .int .i64 a0_4, .int .i64 a0_5, .int .i64 a0_6, .int .i64 a0_7, .int .i64 a0_8, .int .i64 a0_9, .int .i64 a0_10], .int .i64 x4_1] rfl (by (try simp only [List.map_toArray, List.map_cons, List.map_nil]); first | done | rfl | (simp only [List.length_drop, List.length_take]; rfl)) ?_; (with_reducible refine (ticket_Covers.calls a0_0 a0_1 a0_2 a0_3 a0_4 a0_5 a0_6 a0_7 a0_8 a0_9 a0_10 x4_1 true t301 _ A8.out).mono ?_); rintro e w12 ⟨rfl, hb⟩; refine ⟨_, rfl, ?_⟩; have n0_ := Aside0.mk (blk_below (g := gb297) (o := .cells #[.int .i64 a0_0, .int .i64 a0_1, .int .i64 a0_2, .int .i64 a0_3, .int .i64 a0_4, .int .i64 a0_5, .int .i64 a0_6, .int .i64 a0_7, .int .i64 a0_8, .int .i64 a0_9, .int .i64 a0_10] 23 (0, 0)) (by (with_reducible repeat (first | refine blk_drewN ?_ _ | refine blk_drew ?_ | refine blk_alloc ?_ _)); exact BK297.out) hb); have n1_ := Aside0.mk (below_step (by repeat (first | (with_reducible first | exact HB.out | apply below_alloc | apply pw_below_drewN | apply below_drew1 | refine below_set ?_ GE297.out) | exact HB.out)) hb); clear BK297; clear HB; have BK297 := n0_; have HB := n1_; clear n0_ n1_; (try clear hb); (try clear hb2); (try clear hk); (try clear hi); (try clear A8)))
              go_roundg k1
              case measure => have := HK1.out; omega
              case rel => exact ⟨(wrap64 (x3_1 + 1)), (wrap64 (x4_1 + 1)), (by first | rfl | (simp; done) | (simp [*]; done)), (by first | rfl | (simp; done) | (simp [*]; done)), H', ⟨by have := HK1.out; omega⟩, ⟨by (with_reducible repeat (first | refine blk_drewN ?_ _ | refine blk_drew ?_ | refine blk_alloc ?_ _)); exact BK297.out⟩, ⟨by repeat (first | (with_reducible first | exact HB.out | apply below_alloc | apply pw_below_drewN | apply below_drew1 | refine below_set ?_ GE297.out) | exact HB.out)⟩⟩
            · replace c10 := Bool.eq_false_iff.mpr c10
              subst c10
              have H1 : (gatelinelaw09_TicketWay.l0 k1 x3_1 (wrap64 (x4_1 + 1)) a0_0 a0_1 a0_2 a0_3 a0_4 a0_5 a0_6 a0_7 a0_8 a0_9 a0_10) = some r := by rw [if_neg (show ¬ (false = true) by decide)] at H; exact H
              clear H
              have H := H1
              clear H1
              have H' := Aside0.mk H
              clear H
              have hcz13_0 : wr.cell? ⟨gb297, 0, none⟩ = some (.int .i64 a0_0) := (blk_cell BK297.out 0).trans rfl
              have hcz13_1 : wr.cell? ⟨gb297, 1, none⟩ = some (.int .i64 a0_1) := (blk_cell BK297.out 1).trans rfl
              have hcz13_2 : wr.cell? ⟨gb297, 2, none⟩ = some (.int .i64 a0_2) := (blk_cell BK297.out 2).trans rfl
              have hcz13_3 : wr.cell? ⟨gb297, 3, none⟩ = some (.int .i64 a0_3) := (blk_cell BK297.out 3).trans rfl
              have hcz13_4 : wr.cell? ⟨gb297, 4, none⟩ = some (.int .i64 a0_4) := (blk_cell BK297.out 4).trans rfl
              have hcz13_5 : wr.cell? ⟨gb297, 5, none⟩ = some (.int .i64 a0_5) := (blk_cell BK297.out 5).trans rfl
              have hcz13_6 : wr.cell? ⟨gb297, 6, none⟩ = some (.int .i64 a0_6) := (blk_cell BK297.out 6).trans rfl
              have hcz13_7 : wr.cell? ⟨gb297, 7, none⟩ = some (.int .i64 a0_7) := (blk_cell BK297.out 7).trans rfl
              have hcz13_8 : wr.cell? ⟨gb297, 8, none⟩ = some (.int .i64 a0_8) := (blk_cell BK297.out 8).trans rfl
              have hcz13_9 : wr.cell? ⟨gb297, 9, none⟩ = some (.int .i64 a0_9) := (blk_cell BK297.out 9).trans rfl
              have hcz13_10 : wr.cell? ⟨gb297, 10, none⟩ = some (.int .i64 a0_10) := (blk_cell BK297.out 10).trans rfl
              have hfz13_0 := blk_frozen BK297.out 0
              have hfz13_1 := blk_frozen BK297.out 1
              have hfz13_2 := blk_frozen BK297.out 2
              have hfz13_3 := blk_frozen BK297.out 3
              have hfz13_4 := blk_frozen BK297.out 4
              have hfz13_5 := blk_frozen BK297.out 5
              have hfz13_6 := blk_frozen BK297.out 6
              have hfz13_7 := blk_frozen BK297.out 7
              have hfz13_8 := blk_frozen BK297.out 8
              have hfz13_9 := blk_frozen BK297.out 9
              have hfz13_10 := blk_frozen BK297.out 10
              go_wp2_with (first | ((with_reducible refine gate_callee (f := 27) rfl ?_); refine goesL_ (some 24) rfl rfl Try.func27 (by kernel_rfl) rfl #[.agg #[.int .i64 a0_0, .int .i64 a0_1, .int .i64 a0_2, .int .i64 a0_3, .int .i64 a0_4, .int .i64 a0_5, .int .i64 a0_6, .int .i64 a0_7, .int .i64 a0_8, .int .i64 a0_9, .int .i64 a0_10], .int .i64 x4_1] rfl (by (try simp only [List.map_toArray, List.map_cons, List.map_nil]); first | done | rfl | (simp only [List.length_drop, List.length_take]; rfl)) ?_; (with_reducible refine (ticket_Covers.calls a0_0 a0_1 a0_2 a0_3 a0_4 a0_5 a0_6 a0_7 a0_8 a0_9 a0_10 x4_1 false t301 _ A8.out).mono ?_); rintro e w14 ⟨rfl, hb⟩; refine ⟨_, rfl, ?_⟩; have n0_ := Aside0.mk (blk_below (g := gb297) (o := .cells #[.int .i64 a0_0, .int .i64 a0_1, .int .i64 a0_2, .int .i64 a0_3, .int .i64 a0_4, .int .i64 a0_5, .int .i64 a0_6, .int .i64 a0_7, .int .i64 a0_8, .int .i64 a0_9, .int .i64 a0_10] 23 (0, 0)) (by (with_reducible repeat (first | refine blk_drewN ?_ _ | refine blk_drew ?_ | refine blk_alloc ?_ _)); exact BK297.out) hb); have n1_ := Aside0.mk (below_step (by repeat (first | (with_reducible first | exact HB.out | apply below_alloc | apply pw_below_drewN | apply below_drew1 | refine below_set ?_ GE297.out) | exact HB.out)) hb); clear BK297; clear HB; have BK297 := n0_; have HB := n1_; clear n0_ n1_; (try clear hb); (try clear hb2); (try clear hk); (try clear hi); (try clear A8)))
              go_roundg k1
              case measure => have := HK1.out; omega
              case rel => exact ⟨(x3_1), (wrap64 (x4_1 + 1)), (by first | rfl | (simp; done) | (simp [*]; done)), (by first | rfl | (simp; done) | (simp [*]; done)), H', ⟨by have := HK1.out; omega⟩, ⟨by (with_reducible repeat (first | refine blk_drewN ?_ _ | refine blk_drew ?_ | refine blk_alloc ?_ _)); exact BK297.out⟩, ⟨by repeat (first | (with_reducible first | exact HB.out | apply below_alloc | apply pw_below_drewN | apply below_drew1 | refine below_set ?_ GE297.out) | exact HB.out)⟩⟩
          · rw [if_neg c9] at H
            have c9b0 : (t301 == 0) = false := beq_eq_false_iff_ne.mpr c9
            have c9b1 : (t301 != 0) = true := bne_iff_ne.mpr c9
            obtain rfl := Option.some.inj H
            have hcz15_0 : wr.cell? ⟨gb297, 0, none⟩ = some (.int .i64 a0_0) := (blk_cell BK297.out 0).trans rfl
            have hcz15_1 : wr.cell? ⟨gb297, 1, none⟩ = some (.int .i64 a0_1) := (blk_cell BK297.out 1).trans rfl
            have hcz15_2 : wr.cell? ⟨gb297, 2, none⟩ = some (.int .i64 a0_2) := (blk_cell BK297.out 2).trans rfl
            have hcz15_3 : wr.cell? ⟨gb297, 3, none⟩ = some (.int .i64 a0_3) := (blk_cell BK297.out 3).trans rfl
            have hcz15_4 : wr.cell? ⟨gb297, 4, none⟩ = some (.int .i64 a0_4) := (blk_cell BK297.out 4).trans rfl
            have hcz15_5 : wr.cell? ⟨gb297, 5, none⟩ = some (.int .i64 a0_5) := (blk_cell BK297.out 5).trans rfl
            have hcz15_6 : wr.cell? ⟨gb297, 6, none⟩ = some (.int .i64 a0_6) := (blk_cell BK297.out 6).trans rfl
            have hcz15_7 : wr.cell? ⟨gb297, 7, none⟩ = some (.int .i64 a0_7) := (blk_cell BK297.out 7).trans rfl
            have hcz15_8 : wr.cell? ⟨gb297, 8, none⟩ = some (.int .i64 a0_8) := (blk_cell BK297.out 8).trans rfl
            have hcz15_9 : wr.cell? ⟨gb297, 9, none⟩ = some (.int .i64 a0_9) := (blk_cell BK297.out 9).trans rfl
            have hcz15_10 : wr.cell? ⟨gb297, 10, none⟩ = some (.int .i64 a0_10) := (blk_cell BK297.out 10).trans rfl
            have hfz15_0 := blk_frozen BK297.out 0
            have hfz15_1 := blk_frozen BK297.out 1
            have hfz15_2 := blk_frozen BK297.out 2
            have hfz15_3 := blk_frozen BK297.out 3
            have hfz15_4 := blk_frozen BK297.out 4
            have hfz15_5 := blk_frozen BK297.out 5
            have hfz15_6 := blk_frozen BK297.out 6
            have hfz15_7 := blk_frozen BK297.out 7
            have hfz15_8 := blk_frozen BK297.out 8
            have hfz15_9 := blk_frozen BK297.out 9
            have hfz15_10 := blk_frozen BK297.out 10
            go_wp2_with (first | ((with_reducible refine gate_callee (f := 27) rfl ?_); refine goesL_ (some 24) rfl rfl Try.func27 (by kernel_rfl) rfl #[.agg #[.int .i64 a0_0, .int .i64 a0_1, .int .i64 a0_2, .int .i64 a0_3, .int .i64 a0_4, .int .i64 a0_5, .int .i64 a0_6, .int .i64 a0_7, .int .i64 a0_8, .int .i64 a0_9, .int .i64 a0_10], .int .i64 x4_1] rfl (by (try simp only [List.map_toArray, List.map_cons, List.map_nil]); first | done | rfl | (simp only [List.length_drop, List.length_take]; rfl)) ?_; (with_reducible refine (ticket_Covers.calls a0_0 a0_1 a0_2 a0_3 a0_4 a0_5 a0_6 a0_7 a0_8 a0_9 a0_10 x4_1 t300 t301 _ A8.out).mono ?_); rintro e w16 ⟨rfl, hb⟩; refine ⟨_, rfl, ?_⟩; have n0_ := Aside0.mk (blk_below (g := gb297) (o := .cells #[.int .i64 a0_0, .int .i64 a0_1, .int .i64 a0_2, .int .i64 a0_3, .int .i64 a0_4, .int .i64 a0_5, .int .i64 a0_6, .int .i64 a0_7, .int .i64 a0_8, .int .i64 a0_9, .int .i64 a0_10] 23 (0, 0)) (by (with_reducible repeat (first | refine blk_drewN ?_ _ | refine blk_drew ?_ | refine blk_alloc ?_ _)); exact BK297.out) hb); have n1_ := Aside0.mk (below_step (by repeat (first | (with_reducible first | exact HB.out | apply below_alloc | apply pw_below_drewN | apply below_drew1 | refine below_set ?_ GE297.out) | exact HB.out)) hb); clear BK297; clear HB; have BK297 := n0_; have HB := n1_; clear n0_ n1_; (try clear hb); (try clear hb2); (try clear hk); (try clear hi); (try clear A8)))
            go_ret
            exact ⟨by first | rfl | (simp [errW_none, errW_some] <;> rfl) | (simp [*, errW_none, errW_some] <;> rfl), by repeat (first | (with_reducible first | exact HB.out | apply below_alloc | apply pw_below_drewN | apply below_drew1 | refine below_set ?_ GE297.out) | exact HB.out)⟩
        · rw [if_neg c7] at H
          have c7b0 : decide (x4_1 < 40) = false := decide_eq_false c7
          clear c7
          by_cases c17 : a0_1 = 3
          · rw [if_pos c17] at H
            have c17b0 : (a0_1 == 3) = true := beq_iff_eq.mpr c17
            have c17b1 : (a0_1 != 3) = false := bne_eq_false_iff_eq.mpr c17
            clear c17
            replace H := Option.bind_eq_some_iff.mp H
            obtain ⟨⟨t302, t303⟩, A180, H⟩ := H
            replace H : ((gatelinelaw09_sold.f k1).bind fun t306 => (if t306 = true then (if t303 = 0 then (some ((t302.length : Int) == x3_1)) else (some false)) else (some false))) = some r := H
            have A18 := Aside0.mk A180
            clear A180
            replace H := Option.bind_eq_some_iff.mp H
            obtain ⟨t306, A190, H⟩ := H
            replace H : (if t306 = true then (if t303 = 0 then (some ((t302.length : Int) == x3_1)) else (some false)) else (some false)) = some r := H
            have A19 := Aside0.mk A190
            clear A190
            by_cases c20 : t306 = true
            · subst c20
              have H1 : (if t303 = 0 then (some ((t302.length : Int) == x3_1)) else (some false)) = some r := by rw [if_pos rfl] at H; exact H
              clear H
              have H := H1
              clear H1
              by_cases c21 : t303 = 0
              · rw [if_pos c21] at H
                have c21b0 : (t303 == 0) = true := beq_iff_eq.mpr c21
                have c21b1 : (t303 != 0) = false := bne_eq_false_iff_eq.mpr c21
                clear c21
                obtain rfl := Option.some.inj H
                have hcz22_0 : wr.cell? ⟨gb297, 0, none⟩ = some (.int .i64 a0_0) := (blk_cell BK297.out 0).trans rfl
                have hcz22_1 : wr.cell? ⟨gb297, 1, none⟩ = some (.int .i64 a0_1) := (blk_cell BK297.out 1).trans rfl
                have hcz22_2 : wr.cell? ⟨gb297, 2, none⟩ = some (.int .i64 a0_2) := (blk_cell BK297.out 2).trans rfl
                have hcz22_3 : wr.cell? ⟨gb297, 3, none⟩ = some (.int .i64 a0_3) := (blk_cell BK297.out 3).trans rfl
                have hcz22_4 : wr.cell? ⟨gb297, 4, none⟩ = some (.int .i64 a0_4) := (blk_cell BK297.out 4).trans rfl
                have hcz22_5 : wr.cell? ⟨gb297, 5, none⟩ = some (.int .i64 a0_5) := (blk_cell BK297.out 5).trans rfl
                have hcz22_6 : wr.cell? ⟨gb297, 6, none⟩ = some (.int .i64 a0_6) := (blk_cell BK297.out 6).trans rfl
                have hcz22_7 : wr.cell? ⟨gb297, 7, none⟩ = some (.int .i64 a0_7) := (blk_cell BK297.out 7).trans rfl
                have hcz22_8 : wr.cell? ⟨gb297, 8, none⟩ = some (.int .i64 a0_8) := (blk_cell BK297.out 8).trans rfl
                have hcz22_9 : wr.cell? ⟨gb297, 9, none⟩ = some (.int .i64 a0_9) := (blk_cell BK297.out 9).trans rfl
                have hcz22_10 : wr.cell? ⟨gb297, 10, none⟩ = some (.int .i64 a0_10) := (blk_cell BK297.out 10).trans rfl
                have hfz22_0 := blk_frozen BK297.out 0
                have hfz22_1 := blk_frozen BK297.out 1
                have hfz22_2 := blk_frozen BK297.out 2
                have hfz22_3 := blk_frozen BK297.out 3
                have hfz22_4 := blk_frozen BK297.out 4
                have hfz22_5 := blk_frozen BK297.out 5
                have hfz22_6 := blk_frozen BK297.out 6
                have hfz22_7 := blk_frozen BK297.out 7
                have hfz22_8 := blk_frozen BK297.out 8
                have hfz22_9 := blk_frozen BK297.out 9
                have hfz22_10 := blk_frozen BK297.out 10
                go_wp2_with (first | ((with_reducible refine gate_callee (f := 34) rfl ?_); refine goesL_ (some 40) rfl rfl Try.func34 (by kernel_rfl) rfl #[.int .i64 a0_2, .int .i64 a0_3] rfl (by (try simp only [List.map_toArray, List.map_cons, List.map_nil]); first | done | rfl | (simp only [List.length_drop, List.length_take]; rfl)) ?_; (with_reducible refine (line_Stations.calls a0_2 a0_3 t302 t303 _ A18.out).mono ?_); rintro e w23 ⟨v304, rfl, ho0, hb⟩; refine ⟨_, rfl, ?_⟩; have n0_ := Aside0.mk (Kd.R_lower ho0 (below_size (by repeat (first | (with_reducible first | exact HB.out | apply below_alloc | apply pw_below_drewN | apply below_drew1 | refine below_set ?_ GE297.out) | exact HB.out)))); have n1_ := Aside0.mk (blk_below (g := gb297) (o := .cells #[.int .i64 a0_0, .int .i64 a0_1, .int .i64 a0_2, .int .i64 a0_3, .int .i64 a0_4, .int .i64 a0_5, .int .i64 a0_6, .int .i64 a0_7, .int .i64 a0_8, .int .i64 a0_9, .int .i64 a0_10] 23 (0, 0)) (by (with_reducible repeat (first | refine blk_drewN ?_ _ | refine blk_drew ?_ | refine blk_alloc ?_ _)); exact BK297.out) hb); have n2_ := Aside0.mk (below_step (by repeat (first | (with_reducible first | exact HB.out | apply below_alloc | apply pw_below_drewN | apply below_drew1 | refine below_set ?_ GE297.out) | exact HB.out)) hb); clear BK297; clear HB; have HO305 := n0_; have BK297 := n1_; have HB := n2_; clear n0_ n1_ n2_; (try clear hb); (try clear hb2); (try clear hk); (try clear hi); (try clear ho0); (try clear A18)) | ((with_reducible refine gate_callee (f := 29) rfl ?_); refine goesL_ (some 43) rfl rfl Try.func29 (by kernel_rfl) rfl #[] rfl (by (try simp only [List.map_toArray, List.map_cons, List.map_nil]); first | done | rfl | (simp only [List.length_drop, List.length_take]; rfl)) ?_; (with_reducible refine (gatelinelaw09_sold.calls k1  true _ A19.out).mono ?_); rintro e w24 ⟨rfl, hb⟩; refine ⟨_, rfl, ?_⟩; have n0_ := Aside0.mk (Kd.R_below (by (with_reducible repeat (first | apply Kd.R_alloc | apply Kd.R_drewN | apply Kd.R_drew)); exact HO305.out) hb); have n1_ := Aside0.mk (blk_below (g := gb297) (o := .cells #[.int .i64 a0_0, .int .i64 a0_1, .int .i64 a0_2, .int .i64 a0_3, .int .i64 a0_4, .int .i64 a0_5, .int .i64 a0_6, .int .i64 a0_7, .int .i64 a0_8, .int .i64 a0_9, .int .i64 a0_10] 23 (0, 0)) (by (with_reducible repeat (first | refine blk_drewN ?_ _ | refine blk_drew ?_ | refine blk_alloc ?_ _)); exact BK297.out) hb); have n2_ := Aside0.mk (below_step (by repeat (first | (with_reducible first | exact HB.out | apply below_alloc | apply pw_below_drewN | apply below_drew1 | refine below_set ?_ GE297.out) | exact HB.out)) hb); clear HO305; clear BK297; clear HB; have HO305 := n0_; have BK297 := n1_; have HB := n2_; clear n0_ n1_ n2_; (try clear hb); (try clear hb2); (try clear hk); (try clear hi); (try clear A19); obtain ⟨Ao25, co25, eo25⟩ := Kd.R_slice HO305.out; subst eo25))
                go_ret
                exact ⟨by first | rfl | (simp [errW_none, errW_some] <;> rfl) | (simp [*, errW_none, errW_some] <;> rfl), by repeat (first | (with_reducible first | exact HB.out | apply below_alloc | apply pw_below_drewN | apply below_drew1 | refine below_set ?_ GE297.out) | exact HB.out)⟩
              · rw [if_neg c21] at H
                have c21b0 : (t303 == 0) = false := beq_eq_false_iff_ne.mpr c21
                have c21b1 : (t303 != 0) = true := bne_iff_ne.mpr c21
                obtain rfl := Option.some.inj H
                have hcz26_0 : wr.cell? ⟨gb297, 0, none⟩ = some (.int .i64 a0_0) := (blk_cell BK297.out 0).trans rfl
                have hcz26_1 : wr.cell? ⟨gb297, 1, none⟩ = some (.int .i64 a0_1) := (blk_cell BK297.out 1).trans rfl
                have hcz26_2 : wr.cell? ⟨gb297, 2, none⟩ = some (.int .i64 a0_2) := (blk_cell BK297.out 2).trans rfl
                have hcz26_3 : wr.cell? ⟨gb297, 3, none⟩ = some (.int .i64 a0_3) := (blk_cell BK297.out 3).trans rfl
                have hcz26_4 : wr.cell? ⟨gb297, 4, none⟩ = some (.int .i64 a0_4) := (blk_cell BK297.out 4).trans rfl
                have hcz26_5 : wr.cell? ⟨gb297, 5, none⟩ = some (.int .i64 a0_5) := (blk_cell BK297.out 5).trans rfl
                have hcz26_6 : wr.cell? ⟨gb297, 6, none⟩ = some (.int .i64 a0_6) := (blk_cell BK297.out 6).trans rfl
                have hcz26_7 : wr.cell? ⟨gb297, 7, none⟩ = some (.int .i64 a0_7) := (blk_cell BK297.out 7).trans rfl
                have hcz26_8 : wr.cell? ⟨gb297, 8, none⟩ = some (.int .i64 a0_8) := (blk_cell BK297.out 8).trans rfl
                have hcz26_9 : wr.cell? ⟨gb297, 9, none⟩ = some (.int .i64 a0_9) := (blk_cell BK297.out 9).trans rfl
                have hcz26_10 : wr.cell? ⟨gb297, 10, none⟩ = some (.int .i64 a0_10) := (blk_cell BK297.out 10).trans rfl
                have hfz26_0 := blk_frozen BK297.out 0
                have hfz26_1 := blk_frozen BK297.out 1
                have hfz26_2 := blk_frozen BK297.out 2
                have hfz26_3 := blk_frozen BK297.out 3
                have hfz26_4 := blk_frozen BK297.out 4
                have hfz26_5 := blk_frozen BK297.out 5
                have hfz26_6 := blk_frozen BK297.out 6
                have hfz26_7 := blk_frozen BK297.out 7
                have hfz26_8 := blk_frozen BK297.out 8
                have hfz26_9 := blk_frozen BK297.out 9
                have hfz26_10 := blk_frozen BK297.out 10
                go_wp2_with (first | ((with_reducible refine gate_callee (f := 34) rfl ?_); refine goesL_ (some 40) rfl rfl Try.func34 (by kernel_rfl) rfl #[.int .i64 a0_2, .int .i64 a0_3] rfl (by (try simp only [List.map_toArray, List.map_cons, List.map_nil]); first | done | rfl | (simp only [List.length_drop, List.length_take]; rfl)) ?_; (with_reducible refine (line_Stations.calls a0_2 a0_3 t302 t303 _ A18.out).mono ?_); rintro e w27 ⟨v304, rfl, ho0, hb⟩; refine ⟨_, rfl, ?_⟩; have n0_ := Aside0.mk (Kd.R_lower ho0 (below_size (by repeat (first | (with_reducible first | exact HB.out | apply below_alloc | apply pw_below_drewN | apply below_drew1 | refine below_set ?_ GE297.out) | exact HB.out)))); have n1_ := Aside0.mk (blk_below (g := gb297) (o := .cells #[.int .i64 a0_0, .int .i64 a0_1, .int .i64 a0_2, .int .i64 a0_3, .int .i64 a0_4, .int .i64 a0_5, .int .i64 a0_6, .int .i64 a0_7, .int .i64 a0_8, .int .i64 a0_9, .int .i64 a0_10] 23 (0, 0)) (by (with_reducible repeat (first | refine blk_drewN ?_ _ | refine blk_drew ?_ | refine blk_alloc ?_ _)); exact BK297.out) hb); have n2_ := Aside0.mk (below_step (by repeat (first | (with_reducible first | exact HB.out | apply below_alloc | apply pw_below_drewN | apply below_drew1 | refine below_set ?_ GE297.out) | exact HB.out)) hb); clear BK297; clear HB; have HO305 := n0_; have BK297 := n1_; have HB := n2_; clear n0_ n1_ n2_; (try clear hb); (try clear hb2); (try clear hk); (try clear hi); (try clear ho0); (try clear A18)) | ((with_reducible refine gate_callee (f := 29) rfl ?_); refine goesL_ (some 43) rfl rfl Try.func29 (by kernel_rfl) rfl #[] rfl (by (try simp only [List.map_toArray, List.map_cons, List.map_nil]); first | done | rfl | (simp only [List.length_drop, List.length_take]; rfl)) ?_; (with_reducible refine (gatelinelaw09_sold.calls k1  true _ A19.out).mono ?_); rintro e w28 ⟨rfl, hb⟩; refine ⟨_, rfl, ?_⟩; have n0_ := Aside0.mk (Kd.R_below (by (with_reducible repeat (first | apply Kd.R_alloc | apply Kd.R_drewN | apply Kd.R_drew)); exact HO305.out) hb); have n1_ := Aside0.mk (blk_below (g := gb297) (o := .cells #[.int .i64 a0_0, .int .i64 a0_1, .int .i64 a0_2, .int .i64 a0_3, .int .i64 a0_4, .int .i64 a0_5, .int .i64 a0_6, .int .i64 a0_7, .int .i64 a0_8, .int .i64 a0_9, .int .i64 a0_10] 23 (0, 0)) (by (with_reducible repeat (first | refine blk_drewN ?_ _ | refine blk_drew ?_ | refine blk_alloc ?_ _)); exact BK297.out) hb); have n2_ := Aside0.mk (below_step (by repeat (first | (with_reducible first | exact HB.out | apply below_alloc | apply pw_below_drewN | apply below_drew1 | refine below_set ?_ GE297.out) | exact HB.out)) hb); clear HO305; clear BK297; clear HB; have HO305 := n0_; have BK297 := n1_; have HB := n2_; clear n0_ n1_ n2_; (try clear hb); (try clear hb2); (try clear hk); (try clear hi); (try clear A19)))
                go_ret
                exact ⟨by first | rfl | (simp [errW_none, errW_some] <;> rfl) | (simp [*, errW_none, errW_some] <;> rfl), by repeat (first | (with_reducible first | exact HB.out | apply below_alloc | apply pw_below_drewN | apply below_drew1 | refine below_set ?_ GE297.out) | exact HB.out)⟩
            · replace c20 := Bool.eq_false_iff.mpr c20
              subst c20
              have H1 : (some false) = some r := by rw [if_neg (show ¬ (false = true) by decide)] at H; exact H
              clear H
              have H := H1
              clear H1
              obtain rfl := Option.some.inj H
              have hcz29_0 : wr.cell? ⟨gb297, 0, none⟩ = some (.int .i64 a0_0) := (blk_cell BK297.out 0).trans rfl
              have hcz29_1 : wr.cell? ⟨gb297, 1, none⟩ = some (.int .i64 a0_1) := (blk_cell BK297.out 1).trans rfl
              have hcz29_2 : wr.cell? ⟨gb297, 2, none⟩ = some (.int .i64 a0_2) := (blk_cell BK297.out 2).trans rfl
              have hcz29_3 : wr.cell? ⟨gb297, 3, none⟩ = some (.int .i64 a0_3) := (blk_cell BK297.out 3).trans rfl
              have hcz29_4 : wr.cell? ⟨gb297, 4, none⟩ = some (.int .i64 a0_4) := (blk_cell BK297.out 4).trans rfl
              have hcz29_5 : wr.cell? ⟨gb297, 5, none⟩ = some (.int .i64 a0_5) := (blk_cell BK297.out 5).trans rfl
              have hcz29_6 : wr.cell? ⟨gb297, 6, none⟩ = some (.int .i64 a0_6) := (blk_cell BK297.out 6).trans rfl
              have hcz29_7 : wr.cell? ⟨gb297, 7, none⟩ = some (.int .i64 a0_7) := (blk_cell BK297.out 7).trans rfl
              have hcz29_8 : wr.cell? ⟨gb297, 8, none⟩ = some (.int .i64 a0_8) := (blk_cell BK297.out 8).trans rfl
              have hcz29_9 : wr.cell? ⟨gb297, 9, none⟩ = some (.int .i64 a0_9) := (blk_cell BK297.out 9).trans rfl
              have hcz29_10 : wr.cell? ⟨gb297, 10, none⟩ = some (.int .i64 a0_10) := (blk_cell BK297.out 10).trans rfl
              have hfz29_0 := blk_frozen BK297.out 0
              have hfz29_1 := blk_frozen BK297.out 1
              have hfz29_2 := blk_frozen BK297.out 2
              have hfz29_3 := blk_frozen BK297.out 3
              have hfz29_4 := blk_frozen BK297.out 4
              have hfz29_5 := blk_frozen BK297.out 5
              have hfz29_6 := blk_frozen BK297.out 6
              have hfz29_7 := blk_frozen BK297.out 7
              have hfz29_8 := blk_frozen BK297.out 8
              have hfz29_9 := blk_frozen BK297.out 9
              have hfz29_10 := blk_frozen BK297.out 10
              go_wp2_with (first | ((with_reducible refine gate_callee (f := 34) rfl ?_); refine goesL_ (some 40) rfl rfl Try.func34 (by kernel_rfl) rfl #[.int .i64 a0_2, .int .i64 a0_3] rfl (by (try simp only [List.map_toArray, List.map_cons, List.map_nil]); first | done | rfl | (simp only [List.length_drop, List.length_take]; rfl)) ?_; (with_reducible refine (line_Stations.calls a0_2 a0_3 t302 t303 _ A18.out).mono ?_); rintro e w30 ⟨v304, rfl, ho0, hb⟩; refine ⟨_, rfl, ?_⟩; have n0_ := Aside0.mk (Kd.R_lower ho0 (below_size (by repeat (first | (with_reducible first | exact HB.out | apply below_alloc | apply pw_below_drewN | apply below_drew1 | refine below_set ?_ GE297.out) | exact HB.out)))); have n1_ := Aside0.mk (blk_below (g := gb297) (o := .cells #[.int .i64 a0_0, .int .i64 a0_1, .int .i64 a0_2, .int .i64 a0_3, .int .i64 a0_4, .int .i64 a0_5, .int .i64 a0_6, .int .i64 a0_7, .int .i64 a0_8, .int .i64 a0_9, .int .i64 a0_10] 23 (0, 0)) (by (with_reducible repeat (first | refine blk_drewN ?_ _ | refine blk_drew ?_ | refine blk_alloc ?_ _)); exact BK297.out) hb); have n2_ := Aside0.mk (below_step (by repeat (first | (with_reducible first | exact HB.out | apply below_alloc | apply pw_below_drewN | apply below_drew1 | refine below_set ?_ GE297.out) | exact HB.out)) hb); clear BK297; clear HB; have HO305 := n0_; have BK297 := n1_; have HB := n2_; clear n0_ n1_ n2_; (try clear hb); (try clear hb2); (try clear hk); (try clear hi); (try clear ho0); (try clear A18)) | ((with_reducible refine gate_callee (f := 29) rfl ?_); refine goesL_ (some 43) rfl rfl Try.func29 (by kernel_rfl) rfl #[] rfl (by (try simp only [List.map_toArray, List.map_cons, List.map_nil]); first | done | rfl | (simp only [List.length_drop, List.length_take]; rfl)) ?_; (with_reducible refine (gatelinelaw09_sold.calls k1  false _ A19.out).mono ?_); rintro e w31 ⟨rfl, hb⟩; refine ⟨_, rfl, ?_⟩; have n0_ := Aside0.mk (Kd.R_below (by (with_reducible repeat (first | apply Kd.R_alloc | apply Kd.R_drewN | apply Kd.R_drew)); exact HO305.out) hb); have n1_ := Aside0.mk (blk_below (g := gb297) (o := .cells #[.int .i64 a0_0, .int .i64 a0_1, .int .i64 a0_2, .int .i64 a0_3, .int .i64 a0_4, .int .i64 a0_5, .int .i64 a0_6, .int .i64 a0_7, .int .i64 a0_8, .int .i64 a0_9, .int .i64 a0_10] 23 (0, 0)) (by (with_reducible repeat (first | refine blk_drewN ?_ _ | refine blk_drew ?_ | refine blk_alloc ?_ _)); exact BK297.out) hb); have n2_ := Aside0.mk (below_step (by repeat (first | (with_reducible first | exact HB.out | apply below_alloc | apply pw_below_drewN | apply below_drew1 | refine below_set ?_ GE297.out) | exact HB.out)) hb); clear HO305; clear BK297; clear HB; have HO305 := n0_; have BK297 := n1_; have HB := n2_; clear n0_ n1_ n2_; (try clear hb); (try clear hb2); (try clear hk); (try clear hi); (try clear A19)))
              go_ret
              exact ⟨by first | rfl | (simp [errW_none, errW_some] <;> rfl) | (simp [*, errW_none, errW_some] <;> rfl), by repeat (first | (with_reducible first | exact HB.out | apply below_alloc | apply pw_below_drewN | apply below_drew1 | refine below_set ?_ GE297.out) | exact HB.out)⟩
          · rw [if_neg c17] at H
            have c17b0 : (a0_1 == 3) = false := beq_eq_false_iff_ne.mpr c17
            have c17b1 : (a0_1 != 3) = true := bne_iff_ne.mpr c17
            replace H := Option.bind_eq_some_iff.mp H
            obtain ⟨⟨t307, t308⟩, A320, H⟩ := H
            replace H : ((ticket_Covers.f a0_0 a0_1 a0_2 a0_3 a0_4 a0_5 a0_6 a0_7 a0_8 a0_9 a0_10 a0_3).bind fun bt309 => ((gatelinelaw09_sold.f k1).bind fun t311 => (if t311 = true then (if t308 = 0 then (if bt309.2 = 0 then (if t307 = true then (if bt309.1 = true then (if x3_1 = (wrap64 ((wrap64 (a0_3 - a0_2)) + 1)) then (some true) else (some (x3_1 == (wrap64 ((wrap64 (a0_2 - a0_3)) + 1))))) else (some false)) else (some false)) else (some false)) else (some false)) else (some false)))) = some r := H
            have A32 := Aside0.mk A320
            clear A320
            replace H := Option.bind_eq_some_iff.mp H
            obtain ⟨⟨t309, t310⟩, A330, H⟩ := H
            replace H : ((gatelinelaw09_sold.f k1).bind fun t311 => (if t311 = true then (if t308 = 0 then (if t310 = 0 then (if t307 = true then (if t309 = true then (if x3_1 = (wrap64 ((wrap64 (a0_3 - a0_2)) + 1)) then (some true) else (some (x3_1 == (wrap64 ((wrap64 (a0_2 - a0_3)) + 1))))) else (some false)) else (some false)) else (some false)) else (some false)) else (some false))) = some r := H
            have A33 := Aside0.mk A330
            clear A330
            replace H := Option.bind_eq_some_iff.mp H
            obtain ⟨t311, A340, H⟩ := H
            replace H : (if t311 = true then (if t308 = 0 then (if t310 = 0 then (if t307 = true then (if t309 = true then (if x3_1 = (wrap64 ((wrap64 (a0_3 - a0_2)) + 1)) then (some true) else (some (x3_1 == (wrap64 ((wrap64 (a0_2 - a0_3)) + 1))))) else (some false)) else (some false)) else (some false)) else (some false)) else (some false)) = some r := H
            have A34 := Aside0.mk A340
            clear A340
            by_cases c35 : t311 = true
            · subst c35
              have H1 : (if t308 = 0 then (if t310 = 0 then (if t307 = true then (if t309 = true then (if x3_1 = (wrap64 ((wrap64 (a0_3 - a0_2)) + 1)) then (some true) else (some (x3_1 == (wrap64 ((wrap64 (a0_2 - a0_3)) + 1))))) else (some false)) else (some false)) else (some false)) else (some false)) = some r := by rw [if_pos rfl] at H; exact H
              clear H
              have H := H1
              clear H1
              by_cases c36 : t308 = 0
              · rw [if_pos c36] at H
                have c36b0 : (t308 == 0) = true := beq_iff_eq.mpr c36
                have c36b1 : (t308 != 0) = false := bne_eq_false_iff_eq.mpr c36
                clear c36
                by_cases c37 : t310 = 0
                · rw [if_pos c37] at H
                  have c37b0 : (t310 == 0) = true := beq_iff_eq.mpr c37
                  have c37b1 : (t310 != 0) = false := bne_eq_false_iff_eq.mpr c37
                  clear c37
                  by_cases c38 : t307 = true
                  · subst c38
                    have H1 : (if t309 = true then (if x3_1 = (wrap64 ((wrap64 (a0_3 - a0_2)) + 1)) then (some true) else (some (x3_1 == (wrap64 ((wrap64 (a0_2 - a0_3)) + 1))))) else (some false)) = some r := by rw [if_pos rfl] at H; exact H
                    clear H
                    have H := H1
                    clear H1
                    by_cases c39 : t309 = true
                    · subst c39
                      have H1 : (if x3_1 = (wrap64 ((wrap64 (a0_3 - a0_2)) + 1)) then (some true) else (some (x3_1 == (wrap64 ((wrap64 (a0_2 - a0_3)) + 1))))) = some r := by rw [if_pos rfl] at H; exact H
                      clear H
                      have H := H1
                      clear H1
                      by_cases c40 : x3_1 = (wrap64 ((wrap64 (a0_3 - a0_2)) + 1))
                      · rw [if_pos c40] at H
                        have c40b0 : (x3_1 == (wrap64 ((wrap64 (a0_3 - a0_2)) + 1))) = true := beq_iff_eq.mpr c40
                        have c40b1 : (x3_1 != (wrap64 ((wrap64 (a0_3 - a0_2)) + 1))) = false := bne_eq_false_iff_eq.mpr c40
                        clear c40
                        obtain rfl := Option.some.inj H
                        have hcz41_0 : wr.cell? ⟨gb297, 0, none⟩ = some (.int .i64 a0_0) := (blk_cell BK297.out 0).trans rfl
                        have hcz41_1 : wr.cell? ⟨gb297, 1, none⟩ = some (.int .i64 a0_1) := (blk_cell BK297.out 1).trans rfl
                        have hcz41_2 : wr.cell? ⟨gb297, 2, none⟩ = some (.int .i64 a0_2) := (blk_cell BK297.out 2).trans rfl
                        have hcz41_3 : wr.cell? ⟨gb297, 3, none⟩ = some (.int .i64 a0_3) := (blk_cell BK297.out 3).trans rfl
                        have hcz41_4 : wr.cell? ⟨gb297, 4, none⟩ = some (.int .i64 a0_4) := (blk_cell BK297.out 4).trans rfl
                        have hcz41_5 : wr.cell? ⟨gb297, 5, none⟩ = some (.int .i64 a0_5) := (blk_cell BK297.out 5).trans rfl
                        have hcz41_6 : wr.cell? ⟨gb297, 6, none⟩ = some (.int .i64 a0_6) := (blk_cell BK297.out 6).trans rfl
                        have hcz41_7 : wr.cell? ⟨gb297, 7, none⟩ = some (.int .i64 a0_7) := (blk_cell BK297.out 7).trans rfl
                        have hcz41_8 : wr.cell? ⟨gb297, 8, none⟩ = some (.int .i64 a0_8) := (blk_cell BK297.out 8).trans rfl
                        have hcz41_9 : wr.cell? ⟨gb297, 9, none⟩ = some (.int .i64 a0_9) := (blk_cell BK297.out 9).trans rfl
                        have hcz41_10 : wr.cell? ⟨gb297, 10, none⟩ = some (.int .i64 a0_10) := (blk_cell BK297.out 10).trans rfl
                        have hfz41_0 := blk_frozen BK297.out 0
                        have hfz41_1 := blk_frozen BK297.out 1
                        have hfz41_2 := blk_frozen BK297.out 2
                        have hfz41_3 := blk_frozen BK297.out 3
                        have hfz41_4 := blk_frozen BK297.out 4
                        have hfz41_5 := blk_frozen BK297.out 5
                        have hfz41_6 := blk_frozen BK297.out 6
                        have hfz41_7 := blk_frozen BK297.out 7
                        have hfz41_8 := blk_frozen BK297.out 8
                        have hfz41_9 := blk_frozen BK297.out 9
                        have hfz41_10 := blk_frozen BK297.out 10
                        go_wp2_with (first | ((with_reducible refine gate_callee (f := 27) rfl ?_); refine goesL_ (some 58) rfl rfl Try.func27 (by kernel_rfl) rfl #[.agg #[.int .i64 a0_0, .int .i64 a0_1, .int .i64 a0_2, .int .i64 a0_3, .int .i64 a0_4, .int .i64 a0_5, .int .i64 a0_6, .int .i64 a0_7, .int .i64 a0_8, .int .i64 a0_9, .int .i64 a0_10], .int .i64 a0_2] rfl (by (try simp only [List.map_toArray, List.map_cons, List.map_nil]); first | done | rfl | (simp only [List.length_drop, List.length_take]; rfl)) ?_; (with_reducible refine (ticket_Covers.calls a0_0 a0_1 a0_2 a0_3 a0_4 a0_5 a0_6 a0_7 a0_8 a0_9 a0_10 a0_2 true t308 _ A32.out).mono ?_); rintro e w42 ⟨rfl, hb⟩; refine ⟨_, rfl, ?_⟩; have n0_ := Aside0.mk (blk_below (g := gb297) (o := .cells #[.int .i64 a0_0, .int .i64 a0_1, .int .i64 a0_2, .int .i64 a0_3, .int .i64 a0_4, .int .i64 a0_5, .int .i64 a0_6, .int .i64 a0_7, .int .i64 a0_8, .int .i64 a0_9, .int .i64 a0_10] 23 (0, 0)) (by (with_reducible repeat (first | refine blk_drewN ?_ _ | refine blk_drew ?_ | refine blk_alloc ?_ _)); exact BK297.out) hb); have n1_ := Aside0.mk (below_step (by repeat (first | (with_reducible first | exact HB.out | apply below_alloc | apply pw_below_drewN | apply below_drew1 | refine below_set ?_ GE297.out) | exact HB.out)) hb); clear BK297; clear HB; have BK297 := n0_; have HB := n1_; clear n0_ n1_; (try clear hb); (try clear hb2); (try clear hk); (try clear hi); (try clear A32); have hcz43_0 : w42.cell? ⟨gb297, 0, none⟩ = some (.int .i64 a0_0) := (blk_cell BK297.out 0).trans rfl; have hcz43_1 : w42.cell? ⟨gb297, 1, none⟩ = some (.int .i64 a0_1) := (blk_cell BK297.out 1).trans rfl; have hcz43_2 : w42.cell? ⟨gb297, 2, none⟩ = some (.int .i64 a0_2) := (blk_cell BK297.out 2).trans rfl; have hcz43_3 : w42.cell? ⟨gb297, 3, none⟩ = some (.int .i64 a0_3) := (blk_cell BK297.out 3).trans rfl; have hcz43_4 : w42.cell? ⟨gb297, 4, none⟩ = some (.int .i64 a0_4) := (blk_cell BK297.out 4).trans rfl; have hcz43_5 : w42.cell? ⟨gb297, 5, none⟩ = some (.int .i64 a0_5) := (blk_cell BK297.out 5).trans rfl; have hcz43_6 : w42.cell? ⟨gb297, 6, none⟩ = some (.int .i64 a0_6) := (blk_cell BK297.out 6).trans rfl; have hcz43_7 : w42.cell? ⟨gb297, 7, none⟩ = some (.int .i64 a0_7) := (blk_cell BK297.out 7).trans rfl; have hcz43_8 : w42.cell? ⟨gb297, 8, none⟩ = some (.int .i64 a0_8) := (blk_cell BK297.out 8).trans rfl; have hcz43_9 : w42.cell? ⟨gb297, 9, none⟩ = some (.int .i64 a0_9) := (blk_cell BK297.out 9).trans rfl; have hcz43_10 : w42.cell? ⟨gb297, 10, none⟩ = some (.int .i64 a0_10) := (blk_cell BK297.out 10).trans rfl; have hfz43_0 := blk_frozen BK297.out 0; have hfz43_1 := blk_frozen BK297.out 1; have hfz43_2 := blk_frozen BK297.out 2; have hfz43_3 := blk_frozen BK297.out 3; have hfz43_4 := blk_frozen BK297.out 4; have hfz43_5 := blk_frozen BK297.out 5; have hfz43_6 := blk_frozen BK297.out 6; have hfz43_7 := blk_frozen BK297.out 7; have hfz43_8 := blk_frozen BK297.out 8; have hfz43_9 := blk_frozen BK297.out 9; have hfz43_10 := blk_frozen BK297.out 10) | ((with_reducible refine gate_callee (f := 27) rfl ?_); refine goesL_ (some 65) rfl rfl Try.func27 (by kernel_rfl) rfl #[.agg #[.int .i64 a0_0, .int .i64 a0_1, .int .i64 a0_2, .int .i64 a0_3, .int .i64 a0_4, .int .i64 a0_5, .int .i64 a0_6, .int .i64 a0_7, .int .i64 a0_8, .int .i64 a0_9, .int .i64 a0_10], .int .i64 a0_3] rfl (by (try simp only [List.map_toArray, List.map_cons, List.map_nil]); first | done | rfl | (simp only [List.length_drop, List.length_take]; rfl)) ?_; (with_reducible refine (ticket_Covers.calls a0_0 a0_1 a0_2 a0_3 a0_4 a0_5 a0_6 a0_7 a0_8 a0_9 a0_10 a0_3 true t310 _ A33.out).mono ?_); rintro e w44 ⟨rfl, hb⟩; refine ⟨_, rfl, ?_⟩; have n0_ := Aside0.mk (blk_below (g := gb297) (o := .cells #[.int .i64 a0_0, .int .i64 a0_1, .int .i64 a0_2, .int .i64 a0_3, .int .i64 a0_4, .int .i64 a0_5, .int .i64 a0_6, .int .i64 a0_7, .int .i64 a0_8, .int .i64 a0_9, .int .i64 a0_10] 23 (0, 0)) (by (with_reducible repeat (first | refine blk_drewN ?_ _ | refine blk_drew ?_ | refine blk_alloc ?_ _)); exact BK297.out) hb); have n1_ := Aside0.mk (below_step (by repeat (first | (with_reducible first | exact HB.out | apply below_alloc | apply pw_below_drewN | apply below_drew1 | refine below_set ?_ GE297.out) | exact HB.out)) hb); clear BK297; clear HB; have BK297 := n0_; have HB := n1_; clear n0_ n1_; (try clear hb); (try clear hb2); (try clear hk); (try clear hi); (try clear A33)) | ((with_reducible refine gate_callee (f := 29) rfl ?_); refine goesL_ (some 68) rfl rfl Try.func29 (by kernel_rfl) rfl #[] rfl (by (try simp only [List.map_toArray, List.map_cons, List.map_nil]); first | done | rfl | (simp only [List.length_drop, List.length_take]; rfl)) ?_; (with_reducible refine (gatelinelaw09_sold.calls k1  true _ A34.out).mono ?_); rintro e w45 ⟨rfl, hb⟩; refine ⟨_, rfl, ?_⟩; have n0_ := Aside0.mk (blk_below (g := gb297) (o := .cells #[.int .i64 a0_0, .int .i64 a0_1, .int .i64 a0_2, .int .i64 a0_3, .int .i64 a0_4, .int .i64 a0_5, .int .i64 a0_6, .int .i64 a0_7, .int .i64 a0_8, .int .i64 a0_9, .int .i64 a0_10] 23 (0, 0)) (by (with_reducible repeat (first | refine blk_drewN ?_ _ | refine blk_drew ?_ | refine blk_alloc ?_ _)); exact BK297.out) hb); have n1_ := Aside0.mk (below_step (by repeat (first | (with_reducible first | exact HB.out | apply below_alloc | apply pw_below_drewN | apply below_drew1 | refine below_set ?_ GE297.out) | exact HB.out)) hb); clear BK297; clear HB; have BK297 := n0_; have HB := n1_; clear n0_ n1_; (try clear hb); (try clear hb2); (try clear hk); (try clear hi); (try clear A34); have hcz46_0 : w45.cell? ⟨gb297, 0, none⟩ = some (.int .i64 a0_0) := (blk_cell BK297.out 0).trans rfl; have hcz46_1 : w45.cell? ⟨gb297, 1, none⟩ = some (.int .i64 a0_1) := (blk_cell BK297.out 1).trans rfl; have hcz46_2 : w45.cell? ⟨gb297, 2, none⟩ = some (.int .i64 a0_2) := (blk_cell BK297.out 2).trans rfl; have hcz46_3 : w45.cell? ⟨gb297, 3, none⟩ = some (.int .i64 a0_3) := (blk_cell BK297.out 3).trans rfl; have hcz46_4 : w45.cell? ⟨gb297, 4, none⟩ = some (.int .i64 a0_4) := (blk_cell BK297.out 4).trans rfl; have hcz46_5 : w45.cell? ⟨gb297, 5, none⟩ = some (.int .i64 a0_5) := (blk_cell BK297.out 5).trans rfl; have hcz46_6 : w45.cell? ⟨gb297, 6, none⟩ = some (.int .i64 a0_6) := (blk_cell BK297.out 6).trans rfl; have hcz46_7 : w45.cell? ⟨gb297, 7, none⟩ = some (.int .i64 a0_7) := (blk_cell BK297.out 7).trans rfl; have hcz46_8 : w45.cell? ⟨gb297, 8, none⟩ = some (.int .i64 a0_8) := (blk_cell BK297.out 8).trans rfl; have hcz46_9 : w45.cell? ⟨gb297, 9, none⟩ = some (.int .i64 a0_9) := (blk_cell BK297.out 9).trans rfl; have hcz46_10 : w45.cell? ⟨gb297, 10, none⟩ = some (.int .i64 a0_10) := (blk_cell BK297.out 10).trans rfl; have hfz46_0 := blk_frozen BK297.out 0; have hfz46_1 := blk_frozen BK297.out 1; have hfz46_2 := blk_frozen BK297.out 2; have hfz46_3 := blk_frozen BK297.out 3; have hfz46_4 := blk_frozen BK297.out 4; have hfz46_5 := blk_frozen BK297.out 5; have hfz46_6 := blk_frozen BK297.out 6; have hfz46_7 := blk_frozen BK297.out 7; have hfz46_8 := blk_frozen BK297.out 8; have hfz46_9 := blk_frozen BK297.out 9; have hfz46_10 := blk_frozen BK297.out 10))
                        go_ret
                        exact ⟨by first | rfl | (simp [errW_none, errW_some] <;> rfl) | (simp [*, errW_none, errW_some] <;> rfl), by repeat (first | (with_reducible first | exact HB.out | apply below_alloc | apply pw_below_drewN | apply below_drew1 | refine below_set ?_ GE297.out) | exact HB.out)⟩
                      · rw [if_neg c40] at H
                        have c40b0 : (x3_1 == (wrap64 ((wrap64 (a0_3 - a0_2)) + 1))) = false := beq_eq_false_iff_ne.mpr c40
                        have c40b1 : (x3_1 != (wrap64 ((wrap64 (a0_3 - a0_2)) + 1))) = true := bne_iff_ne.mpr c40
                        obtain rfl := Option.some.inj H
                        have hcz47_0 : wr.cell? ⟨gb297, 0, none⟩ = some (.int .i64 a0_0) := (blk_cell BK297.out 0).trans rfl
                        have hcz47_1 : wr.cell? ⟨gb297, 1, none⟩ = some (.int .i64 a0_1) := (blk_cell BK297.out 1).trans rfl
                        have hcz47_2 : wr.cell? ⟨gb297, 2, none⟩ = some (.int .i64 a0_2) := (blk_cell BK297.out 2).trans rfl
                        have hcz47_3 : wr.cell? ⟨gb297, 3, none⟩ = some (.int .i64 a0_3) := (blk_cell BK297.out 3).trans rfl
                        have hcz47_4 : wr.cell? ⟨gb297, 4, none⟩ = some (.int .i64 a0_4) := (blk_cell BK297.out 4).trans rfl
                        have hcz47_5 : wr.cell? ⟨gb297, 5, none⟩ = some (.int .i64 a0_5) := (blk_cell BK297.out 5).trans rfl
                        have hcz47_6 : wr.cell? ⟨gb297, 6, none⟩ = some (.int .i64 a0_6) := (blk_cell BK297.out 6).trans rfl
                        have hcz47_7 : wr.cell? ⟨gb297, 7, none⟩ = some (.int .i64 a0_7) := (blk_cell BK297.out 7).trans rfl
                        have hcz47_8 : wr.cell? ⟨gb297, 8, none⟩ = some (.int .i64 a0_8) := (blk_cell BK297.out 8).trans rfl
                        have hcz47_9 : wr.cell? ⟨gb297, 9, none⟩ = some (.int .i64 a0_9) := (blk_cell BK297.out 9).trans rfl
                        have hcz47_10 : wr.cell? ⟨gb297, 10, none⟩ = some (.int .i64 a0_10) := (blk_cell BK297.out 10).trans rfl
                        have hfz47_0 := blk_frozen BK297.out 0
                        have hfz47_1 := blk_frozen BK297.out 1
                        have hfz47_2 := blk_frozen BK297.out 2
                        have hfz47_3 := blk_frozen BK297.out 3
                        have hfz47_4 := blk_frozen BK297.out 4
                        have hfz47_5 := blk_frozen BK297.out 5
                        have hfz47_6 := blk_frozen BK297.out 6
                        have hfz47_7 := blk_frozen BK297.out 7
                        have hfz47_8 := blk_frozen BK297.out 8
                        have hfz47_9 := blk_frozen BK297.out 9
                        have hfz47_10 := blk_frozen BK297.out 10
                        go_wp2_with (first | ((with_reducible refine gate_callee (f := 27) rfl ?_); refine goesL_ (some 58) rfl rfl Try.func27 (by kernel_rfl) rfl #[.agg #[.int .i64 a0_0, .int .i64 a0_1, .int .i64 a0_2, .int .i64 a0_3, .int .i64 a0_4, .int .i64 a0_5, .int .i64 a0_6, .int .i64 a0_7, .int .i64 a0_8, .int .i64 a0_9, .int .i64 a0_10], .int .i64 a0_2] rfl (by (try simp only [List.map_toArray, List.map_cons, List.map_nil]); first | done | rfl | (simp only [List.length_drop, List.length_take]; rfl)) ?_; (with_reducible refine (ticket_Covers.calls a0_0 a0_1 a0_2 a0_3 a0_4 a0_5 a0_6 a0_7 a0_8 a0_9 a0_10 a0_2 true t308 _ A32.out).mono ?_); rintro e w48 ⟨rfl, hb⟩; refine ⟨_, rfl, ?_⟩; have n0_ := Aside0.mk (blk_below (g := gb297) (o := .cells #[.int .i64 a0_0, .int .i64 a0_1, .int .i64 a0_2, .int .i64 a0_3, .int .i64 a0_4, .int .i64 a0_5, .int .i64 a0_6, .int .i64 a0_7, .int .i64 a0_8, .int .i64 a0_9, .int .i64 a0_10] 23 (0, 0)) (by (with_reducible repeat (first | refine blk_drewN ?_ _ | refine blk_drew ?_ | refine blk_alloc ?_ _)); exact BK297.out) hb); have n1_ := Aside0.mk (below_step (by repeat (first | (with_reducible first | exact HB.out | apply below_alloc | apply pw_below_drewN | apply below_drew1 | refine below_set ?_ GE297.out) | exact HB.out)) hb); clear BK297; clear HB; have BK297 := n0_; have HB := n1_; clear n0_ n1_; (try clear hb); (try clear hb2); (try clear hk); (try clear hi); (try clear A32); have hcz49_0 : w48.cell? ⟨gb297, 0, none⟩ = some (.int .i64 a0_0) := (blk_cell BK297.out 0).trans rfl; have hcz49_1 : w48.cell? ⟨gb297, 1, none⟩ = some (.int .i64 a0_1) := (blk_cell BK297.out 1).trans rfl; have hcz49_2 : w48.cell? ⟨gb297, 2, none⟩ = some (.int .i64 a0_2) := (blk_cell BK297.out 2).trans rfl; have hcz49_3 : w48.cell? ⟨gb297, 3, none⟩ = some (.int .i64 a0_3) := (blk_cell BK297.out 3).trans rfl; have hcz49_4 : w48.cell? ⟨gb297, 4, none⟩ = some (.int .i64 a0_4) := (blk_cell BK297.out 4).trans rfl; have hcz49_5 : w48.cell? ⟨gb297, 5, none⟩ = some (.int .i64 a0_5) := (blk_cell BK297.out 5).trans rfl; have hcz49_6 : w48.cell? ⟨gb297, 6, none⟩ = some (.int .i64 a0_6) := (blk_cell BK297.out 6).trans rfl; have hcz49_7 : w48.cell? ⟨gb297, 7, none⟩ = some (.int .i64 a0_7) := (blk_cell BK297.out 7).trans rfl; have hcz49_8 : w48.cell? ⟨gb297, 8, none⟩ = some (.int .i64 a0_8) := (blk_cell BK297.out 8).trans rfl; have hcz49_9 : w48.cell? ⟨gb297, 9, none⟩ = some (.int .i64 a0_9) := (blk_cell BK297.out 9).trans rfl; have hcz49_10 : w48.cell? ⟨gb297, 10, none⟩ = some (.int .i64 a0_10) := (blk_cell BK297.out 10).trans rfl; have hfz49_0 := blk_frozen BK297.out 0; have hfz49_1 := blk_frozen BK297.out 1; have hfz49_2 := blk_frozen BK297.out 2; have hfz49_3 := blk_frozen BK297.out 3; have hfz49_4 := blk_frozen BK297.out 4; have hfz49_5 := blk_frozen BK297.out 5; have hfz49_6 := blk_frozen BK297.out 6; have hfz49_7 := blk_frozen BK297.out 7; have hfz49_8 := blk_frozen BK297.out 8; have hfz49_9 := blk_frozen BK297.out 9; have hfz49_10 := blk_frozen BK297.out 10) | ((with_reducible refine gate_callee (f := 27) rfl ?_); refine goesL_ (some 65) rfl rfl Try.func27 (by kernel_rfl) rfl #[.agg #[.int .i64 a0_0, .int .i64 a0_1, .int .i64 a0_2, .int .i64 a0_3, .int .i64 a0_4, .int .i64 a0_5, .int .i64 a0_6, .int .i64 a0_7, .int .i64 a0_8, .int .i64 a0_9, .int .i64 a0_10], .int .i64 a0_3] rfl (by (try simp only [List.map_toArray, List.map_cons, List.map_nil]); first | done | rfl | (simp only [List.length_drop, List.length_take]; rfl)) ?_; (with_reducible refine (ticket_Covers.calls a0_0 a0_1 a0_2 a0_3 a0_4 a0_5 a0_6 a0_7 a0_8 a0_9 a0_10 a0_3 true t310 _ A33.out).mono ?_); rintro e w50 ⟨rfl, hb⟩; refine ⟨_, rfl, ?_⟩; have n0_ := Aside0.mk (blk_below (g := gb297) (o := .cells #[.int .i64 a0_0, .int .i64 a0_1, .int .i64 a0_2, .int .i64 a0_3, .int .i64 a0_4, .int .i64 a0_5, .int .i64 a0_6, .int .i64 a0_7, .int .i64 a0_8, .int .i64 a0_9, .int .i64 a0_10] 23 (0, 0)) (by (with_reducible repeat (first | refine blk_drewN ?_ _ | refine blk_drew ?_ | refine blk_alloc ?_ _)); exact BK297.out) hb); have n1_ := Aside0.mk (below_step (by repeat (first | (with_reducible first | exact HB.out | apply below_alloc | apply pw_below_drewN | apply below_drew1 | refine below_set ?_ GE297.out) | exact HB.out)) hb); clear BK297; clear HB; have BK297 := n0_; have HB := n1_; clear n0_ n1_; (try clear hb); (try clear hb2); (try clear hk); (try clear hi); (try clear A33)) | ((with_reducible refine gate_callee (f := 29) rfl ?_); refine goesL_ (some 68) rfl rfl Try.func29 (by kernel_rfl) rfl #[] rfl (by (try simp only [List.map_toArray, List.map_cons, List.map_nil]); first | done | rfl | (simp only [List.length_drop, List.length_take]; rfl)) ?_; (with_reducible refine (gatelinelaw09_sold.calls k1  true _ A34.out).mono ?_); rintro e w51 ⟨rfl, hb⟩; refine ⟨_, rfl, ?_⟩; have n0_ := Aside0.mk (blk_below (g := gb297) (o := .cells #[.int .i64 a0_0, .int .i64 a0_1, .int .i64 a0_2, .int .i64 a0_3, .int .i64 a0_4, .int .i64 a0_5, .int .i64 a0_6, .int .i64 a0_7, .int .i64 a0_8, .int .i64 a0_9, .int .i64 a0_10] 23 (0, 0)) (by (with_reducible repeat (first | refine blk_drewN ?_ _ | refine blk_drew ?_ | refine blk_alloc ?_ _)); exact BK297.out) hb); have n1_ := Aside0.mk (below_step (by repeat (first | (with_reducible first | exact HB.out | apply below_alloc | apply pw_below_drewN | apply below_drew1 | refine below_set ?_ GE297.out) | exact HB.out)) hb); clear BK297; clear HB; have BK297 := n0_; have HB := n1_; clear n0_ n1_; (try clear hb); (try clear hb2); (try clear hk); (try clear hi); (try clear A34); have hcz52_0 : w51.cell? ⟨gb297, 0, none⟩ = some (.int .i64 a0_0) := (blk_cell BK297.out 0).trans rfl; have hcz52_1 : w51.cell? ⟨gb297, 1, none⟩ = some (.int .i64 a0_1) := (blk_cell BK297.out 1).trans rfl; have hcz52_2 : w51.cell? ⟨gb297, 2, none⟩ = some (.int .i64 a0_2) := (blk_cell BK297.out 2).trans rfl; have hcz52_3 : w51.cell? ⟨gb297, 3, none⟩ = some (.int .i64 a0_3) := (blk_cell BK297.out 3).trans rfl; have hcz52_4 : w51.cell? ⟨gb297, 4, none⟩ = some (.int .i64 a0_4) := (blk_cell BK297.out 4).trans rfl; have hcz52_5 : w51.cell? ⟨gb297, 5, none⟩ = some (.int .i64 a0_5) := (blk_cell BK297.out 5).trans rfl; have hcz52_6 : w51.cell? ⟨gb297, 6, none⟩ = some (.int .i64 a0_6) := (blk_cell BK297.out 6).trans rfl; have hcz52_7 : w51.cell? ⟨gb297, 7, none⟩ = some (.int .i64 a0_7) := (blk_cell BK297.out 7).trans rfl; have hcz52_8 : w51.cell? ⟨gb297, 8, none⟩ = some (.int .i64 a0_8) := (blk_cell BK297.out 8).trans rfl; have hcz52_9 : w51.cell? ⟨gb297, 9, none⟩ = some (.int .i64 a0_9) := (blk_cell BK297.out 9).trans rfl; have hcz52_10 : w51.cell? ⟨gb297, 10, none⟩ = some (.int .i64 a0_10) := (blk_cell BK297.out 10).trans rfl; have hfz52_0 := blk_frozen BK297.out 0; have hfz52_1 := blk_frozen BK297.out 1; have hfz52_2 := blk_frozen BK297.out 2; have hfz52_3 := blk_frozen BK297.out 3; have hfz52_4 := blk_frozen BK297.out 4; have hfz52_5 := blk_frozen BK297.out 5; have hfz52_6 := blk_frozen BK297.out 6; have hfz52_7 := blk_frozen BK297.out 7; have hfz52_8 := blk_frozen BK297.out 8; have hfz52_9 := blk_frozen BK297.out 9; have hfz52_10 := blk_frozen BK297.out 10))
                        go_ret
                        exact ⟨by first | rfl | (simp [errW_none, errW_some] <;> rfl) | (simp [*, errW_none, errW_some] <;> rfl), by repeat (first | (with_reducible first | exact HB.out | apply below_alloc | apply pw_below_drewN | apply below_drew1 | refine below_set ?_ GE297.out) | exact HB.out)⟩
                    · replace c39 := Bool.eq_false_iff.mpr c39
                      subst c39
                      have H1 : (some false) = some r := by rw [if_neg (show ¬ (false = true) by decide)] at H; exact H
                      clear H
                      have H := H1
                      clear H1
                      obtain rfl := Option.some.inj H
                      have hcz53_0 : wr.cell? ⟨gb297, 0, none⟩ = some (.int .i64 a0_0) := (blk_cell BK297.out 0).trans rfl
                      have hcz53_1 : wr.cell? ⟨gb297, 1, none⟩ = some (.int .i64 a0_1) := (blk_cell BK297.out 1).trans rfl
                      have hcz53_2 : wr.cell? ⟨gb297, 2, none⟩ = some (.int .i64 a0_2) := (blk_cell BK297.out 2).trans rfl
                      have hcz53_3 : wr.cell? ⟨gb297, 3, none⟩ = some (.int .i64 a0_3) := (blk_cell BK297.out 3).trans rfl
                      have hcz53_4 : wr.cell? ⟨gb297, 4, none⟩ = some (.int .i64 a0_4) := (blk_cell BK297.out 4).trans rfl
                      have hcz53_5 : wr.cell? ⟨gb297, 5, none⟩ = some (.int .i64 a0_5) := (blk_cell BK297.out 5).trans rfl
                      have hcz53_6 : wr.cell? ⟨gb297, 6, none⟩ = some (.int .i64 a0_6) := (blk_cell BK297.out 6).trans rfl
                      have hcz53_7 : wr.cell? ⟨gb297, 7, none⟩ = some (.int .i64 a0_7) := (blk_cell BK297.out 7).trans rfl
                      have hcz53_8 : wr.cell? ⟨gb297, 8, none⟩ = some (.int .i64 a0_8) := (blk_cell BK297.out 8).trans rfl
                      have hcz53_9 : wr.cell? ⟨gb297, 9, none⟩ = some (.int .i64 a0_9) := (blk_cell BK297.out 9).trans rfl
                      have hcz53_10 : wr.cell? ⟨gb297, 10, none⟩ = some (.int .i64 a0_10) := (blk_cell BK297.out 10).trans rfl
                      have hfz53_0 := blk_frozen BK297.out 0
                      have hfz53_1 := blk_frozen BK297.out 1
                      have hfz53_2 := blk_frozen BK297.out 2
                      have hfz53_3 := blk_frozen BK297.out 3
                      have hfz53_4 := blk_frozen BK297.out 4
                      have hfz53_5 := blk_frozen BK297.out 5
                      have hfz53_6 := blk_frozen BK297.out 6
                      have hfz53_7 := blk_frozen BK297.out 7
                      have hfz53_8 := blk_frozen BK297.out 8
                      have hfz53_9 := blk_frozen BK297.out 9
                      have hfz53_10 := blk_frozen BK297.out 10
                      go_wp2_with (first | ((with_reducible refine gate_callee (f := 27) rfl ?_); refine goesL_ (some 58) rfl rfl Try.func27 (by kernel_rfl) rfl #[.agg #[.int .i64 a0_0, .int .i64 a0_1, .int .i64 a0_2, .int .i64 a0_3, .int .i64 a0_4, .int .i64 a0_5, .int .i64 a0_6, .int .i64 a0_7, .int .i64 a0_8, .int .i64 a0_9, .int .i64 a0_10], .int .i64 a0_2] rfl (by (try simp only [List.map_toArray, List.map_cons, List.map_nil]); first | done | rfl | (simp only [List.length_drop, List.length_take]; rfl)) ?_; (with_reducible refine (ticket_Covers.calls a0_0 a0_1 a0_2 a0_3 a0_4 a0_5 a0_6 a0_7 a0_8 a0_9 a0_10 a0_2 true t308 _ A32.out).mono ?_); rintro e w54 ⟨rfl, hb⟩; refine ⟨_, rfl, ?_⟩; have n0_ := Aside0.mk (blk_below (g := gb297) (o := .cells #[.int .i64 a0_0, .int .i64 a0_1, .int .i64 a0_2, .int .i64 a0_3, .int .i64 a0_4, .int .i64 a0_5, .int .i64 a0_6, .int .i64 a0_7, .int .i64 a0_8, .int .i64 a0_9, .int .i64 a0_10] 23 (0, 0)) (by (with_reducible repeat (first | refine blk_drewN ?_ _ | refine blk_drew ?_ | refine blk_alloc ?_ _)); exact BK297.out) hb); have n1_ := Aside0.mk (below_step (by repeat (first | (with_reducible first | exact HB.out | apply below_alloc | apply pw_below_drewN | apply below_drew1 | refine below_set ?_ GE297.out) | exact HB.out)) hb); clear BK297; clear HB; have BK297 := n0_; have HB := n1_; clear n0_ n1_; (try clear hb); (try clear hb2); (try clear hk); (try clear hi); (try clear A32); have hcz55_0 : w54.cell? ⟨gb297, 0, none⟩ = some (.int .i64 a0_0) := (blk_cell BK297.out 0).trans rfl; have hcz55_1 : w54.cell? ⟨gb297, 1, none⟩ = some (.int .i64 a0_1) := (blk_cell BK297.out 1).trans rfl; have hcz55_2 : w54.cell? ⟨gb297, 2, none⟩ = some (.int .i64 a0_2) := (blk_cell BK297.out 2).trans rfl; have hcz55_3 : w54.cell? ⟨gb297, 3, none⟩ = some (.int .i64 a0_3) := (blk_cell BK297.out 3).trans rfl; have hcz55_4 : w54.cell? ⟨gb297, 4, none⟩ = some (.int .i64 a0_4) := (blk_cell BK297.out 4).trans rfl; have hcz55_5 : w54.cell? ⟨gb297, 5, none⟩ = some (.int .i64 a0_5) := (blk_cell BK297.out 5).trans rfl; have hcz55_6 : w54.cell? ⟨gb297, 6, none⟩ = some (.int .i64 a0_6) := (blk_cell BK297.out 6).trans rfl; have hcz55_7 : w54.cell? ⟨gb297, 7, none⟩ = some (.int .i64 a0_7) := (blk_cell BK297.out 7).trans rfl; have hcz55_8 : w54.cell? ⟨gb297, 8, none⟩ = some (.int .i64 a0_8) := (blk_cell BK297.out 8).trans rfl; have hcz55_9 : w54.cell? ⟨gb297, 9, none⟩ = some (.int .i64 a0_9) := (blk_cell BK297.out 9).trans rfl; have hcz55_10 : w54.cell? ⟨gb297, 10, none⟩ = some (.int .i64 a0_10) := (blk_cell BK297.out 10).trans rfl; have hfz55_0 := blk_frozen BK297.out 0; have hfz55_1 := blk_frozen BK297.out 1; have hfz55_2 := blk_frozen BK297.out 2; have hfz55_3 := blk_frozen BK297.out 3; have hfz55_4 := blk_frozen BK297.out 4; have hfz55_5 := blk_frozen BK297.out 5; have hfz55_6 := blk_frozen BK297.out 6; have hfz55_7 := blk_frozen BK297.out 7; have hfz55_8 := blk_frozen BK297.out 8; have hfz55_9 := blk_frozen BK297.out 9; have hfz55_10 := blk_frozen BK297.out 10) | ((with_reducible refine gate_callee (f := 27) rfl ?_); refine goesL_ (some 65) rfl rfl Try.func27 (by kernel_rfl) rfl #[.agg #[.int .i64 a0_0, .int .i64 a0_1, .int .i64 a0_2, .int .i64 a0_3, .int .i64 a0_4, .int .i64 a0_5, .int .i64 a0_6, .int .i64 a0_7, .int .i64 a0_8, .int .i64 a0_9, .int .i64 a0_10], .int .i64 a0_3] rfl (by (try simp only [List.map_toArray, List.map_cons, List.map_nil]); first | done | rfl | (simp only [List.length_drop, List.length_take]; rfl)) ?_; (with_reducible refine (ticket_Covers.calls a0_0 a0_1 a0_2 a0_3 a0_4 a0_5 a0_6 a0_7 a0_8 a0_9 a0_10 a0_3 false t310 _ A33.out).mono ?_); rintro e w56 ⟨rfl, hb⟩; refine ⟨_, rfl, ?_⟩; have n0_ := Aside0.mk (blk_below (g := gb297) (o := .cells #[.int .i64 a0_0, .int .i64 a0_1, .int .i64 a0_2, .int .i64 a0_3, .int .i64 a0_4, .int .i64 a0_5, .int .i64 a0_6, .int .i64 a0_7, .int .i64 a0_8, .int .i64 a0_9, .int .i64 a0_10] 23 (0, 0)) (by (with_reducible repeat (first | refine blk_drewN ?_ _ | refine blk_drew ?_ | refine blk_alloc ?_ _)); exact BK297.out) hb); have n1_ := Aside0.mk (below_step (by repeat (first | (with_reducible first | exact HB.out | apply below_alloc | apply pw_below_drewN | apply below_drew1 | refine below_set ?_ GE297.out) | exact HB.out)) hb); clear BK297; clear HB; have BK297 := n0_; have HB := n1_; clear n0_ n1_; (try clear hb); (try clear hb2); (try clear hk); (try clear hi); (try clear A33)) | ((with_reducible refine gate_callee (f := 29) rfl ?_); refine goesL_ (some 68) rfl rfl Try.func29 (by kernel_rfl) rfl #[] rfl (by (try simp only [List.map_toArray, List.map_cons, List.map_nil]); first | done | rfl | (simp only [List.length_drop, List.length_take]; rfl)) ?_; (with_reducible refine (gatelinelaw09_sold.calls k1  true _ A34.out).mono ?_); rintro e w57 ⟨rfl, hb⟩; refine ⟨_, rfl, ?_⟩; have n0_ := Aside0.mk (blk_below (g := gb297) (o := .cells #[.int .i64 a0_0, .int .i64 a0_1, .int .i64 a0_2, .int .i64 a0_3, .int .i64 a0_4, .int .i64 a0_5, .int .i64 a0_6, .int .i64 a0_7, .int .i64 a0_8, .int .i64 a0_9, .int .i64 a0_10] 23 (0, 0)) (by (with_reducible repeat (first | refine blk_drewN ?_ _ | refine blk_drew ?_ | refine blk_alloc ?_ _)); exact BK297.out) hb); have n1_ := Aside0.mk (below_step (by repeat (first | (with_reducible first | exact HB.out | apply below_alloc | apply pw_below_drewN | apply below_drew1 | refine below_set ?_ GE297.out) | exact HB.out)) hb); clear BK297; clear HB; have BK297 := n0_; have HB := n1_; clear n0_ n1_; (try clear hb); (try clear hb2); (try clear hk); (try clear hi); (try clear A34)))
                      go_ret
                      exact ⟨by first | rfl | (simp [errW_none, errW_some] <;> rfl) | (simp [*, errW_none, errW_some] <;> rfl), by repeat (first | (with_reducible first | exact HB.out | apply below_alloc | apply pw_below_drewN | apply below_drew1 | refine below_set ?_ GE297.out) | exact HB.out)⟩
                  · replace c38 := Bool.eq_false_iff.mpr c38
                    subst c38
                    have H1 : (some false) = some r := by rw [if_neg (show ¬ (false = true) by decide)] at H; exact H
                    clear H
                    have H := H1
                    clear H1
                    obtain rfl := Option.some.inj H
                    have hcz58_0 : wr.cell? ⟨gb297, 0, none⟩ = some (.int .i64 a0_0) := (blk_cell BK297.out 0).trans rfl
                    have hcz58_1 : wr.cell? ⟨gb297, 1, none⟩ = some (.int .i64 a0_1) := (blk_cell BK297.out 1).trans rfl
                    have hcz58_2 : wr.cell? ⟨gb297, 2, none⟩ = some (.int .i64 a0_2) := (blk_cell BK297.out 2).trans rfl
                    have hcz58_3 : wr.cell? ⟨gb297, 3, none⟩ = some (.int .i64 a0_3) := (blk_cell BK297.out 3).trans rfl
                    have hcz58_4 : wr.cell? ⟨gb297, 4, none⟩ = some (.int .i64 a0_4) := (blk_cell BK297.out 4).trans rfl
                    have hcz58_5 : wr.cell? ⟨gb297, 5, none⟩ = some (.int .i64 a0_5) := (blk_cell BK297.out 5).trans rfl
                    have hcz58_6 : wr.cell? ⟨gb297, 6, none⟩ = some (.int .i64 a0_6) := (blk_cell BK297.out 6).trans rfl
                    have hcz58_7 : wr.cell? ⟨gb297, 7, none⟩ = some (.int .i64 a0_7) := (blk_cell BK297.out 7).trans rfl
                    have hcz58_8 : wr.cell? ⟨gb297, 8, none⟩ = some (.int .i64 a0_8) := (blk_cell BK297.out 8).trans rfl
                    have hcz58_9 : wr.cell? ⟨gb297, 9, none⟩ = some (.int .i64 a0_9) := (blk_cell BK297.out 9).trans rfl
                    have hcz58_10 : wr.cell? ⟨gb297, 10, none⟩ = some (.int .i64 a0_10) := (blk_cell BK297.out 10).trans rfl
                    have hfz58_0 := blk_frozen BK297.out 0
                    have hfz58_1 := blk_frozen BK297.out 1
                    have hfz58_2 := blk_frozen BK297.out 2
                    have hfz58_3 := blk_frozen BK297.out 3
                    have hfz58_4 := blk_frozen BK297.out 4
                    have hfz58_5 := blk_frozen BK297.out 5
                    have hfz58_6 := blk_frozen BK297.out 6
                    have hfz58_7 := blk_frozen BK297.out 7
                    have hfz58_8 := blk_frozen BK297.out 8
                    have hfz58_9 := blk_frozen BK297.out 9
                    have hfz58_10 := blk_frozen BK297.out 10
                    go_wp2_with (first | ((with_reducible refine gate_callee (f := 27) rfl ?_); refine goesL_ (some 58) rfl rfl Try.func27 (by kernel_rfl) rfl #[.agg #[.int .i64 a0_0, .int .i64 a0_1, .int .i64 a0_2, .int .i64 a0_3, .int .i64 a0_4, .int .i64 a0_5, .int .i64 a0_6, .int .i64 a0_7, .int .i64 a0_8, .int .i64 a0_9, .int .i64 a0_10], .int .i64 a0_2] rfl (by (try simp only [List.map_toArray, List.map_cons, List.map_nil]); first | done | rfl | (simp only [List.length_drop, List.length_take]; rfl)) ?_; (with_reducible refine (ticket_Covers.calls a0_0 a0_1 a0_2 a0_3 a0_4 a0_5 a0_6 a0_7 a0_8 a0_9 a0_10 a0_2 false t308 _ A32.out).mono ?_); rintro e w59 ⟨rfl, hb⟩; refine ⟨_, rfl, ?_⟩; have n0_ := Aside0.mk (blk_below (g := gb297) (o := .cells #[.int .i64 a0_0, .int .i64 a0_1, .int .i64 a0_2, .int .i64 a0_3, .int .i64 a0_4, .int .i64 a0_5, .int .i64 a0_6, .int .i64 a0_7, .int .i64 a0_8, .int .i64 a0_9, .int .i64 a0_10] 23 (0, 0)) (by (with_reducible repeat (first | refine blk_drewN ?_ _ | refine blk_drew ?_ | refine blk_alloc ?_ _)); exact BK297.out) hb); have n1_ := Aside0.mk (below_step (by repeat (first | (with_reducible first | exact HB.out | apply below_alloc | apply pw_below_drewN | apply below_drew1 | refine below_set ?_ GE297.out) | exact HB.out)) hb); clear BK297; clear HB; have BK297 := n0_; have HB := n1_; clear n0_ n1_; (try clear hb); (try clear hb2); (try clear hk); (try clear hi); (try clear A32); have hcz60_0 : w59.cell? ⟨gb297, 0, none⟩ = some (.int .i64 a0_0) := (blk_cell BK297.out 0).trans rfl; have hcz60_1 : w59.cell? ⟨gb297, 1, none⟩ = some (.int .i64 a0_1) := (blk_cell BK297.out 1).trans rfl; have hcz60_2 : w59.cell? ⟨gb297, 2, none⟩ = some (.int .i64 a0_2) := (blk_cell BK297.out 2).trans rfl; have hcz60_3 : w59.cell? ⟨gb297, 3, none⟩ = some (.int .i64 a0_3) := (blk_cell BK297.out 3).trans rfl; have hcz60_4 : w59.cell? ⟨gb297, 4, none⟩ = some (.int .i64 a0_4) := (blk_cell BK297.out 4).trans rfl; have hcz60_5 : w59.cell? ⟨gb297, 5, none⟩ = some (.int .i64 a0_5) := (blk_cell BK297.out 5).trans rfl; have hcz60_6 : w59.cell? ⟨gb297, 6, none⟩ = some (.int .i64 a0_6) := (blk_cell BK297.out 6).trans rfl; have hcz60_7 : w59.cell? ⟨gb297, 7, none⟩ = some (.int .i64 a0_7) := (blk_cell BK297.out 7).trans rfl; have hcz60_8 : w59.cell? ⟨gb297, 8, none⟩ = some (.int .i64 a0_8) := (blk_cell BK297.out 8).trans rfl; have hcz60_9 : w59.cell? ⟨gb297, 9, none⟩ = some (.int .i64 a0_9) := (blk_cell BK297.out 9).trans rfl; have hcz60_10 : w59.cell? ⟨gb297, 10, none⟩ = some (.int .i64 a0_10) := (blk_cell BK297.out 10).trans rfl; have hfz60_0 := blk_frozen BK297.out 0; have hfz60_1 := blk_frozen BK297.out 1; have hfz60_2 := blk_frozen BK297.out 2; have hfz60_3 := blk_frozen BK297.out 3; have hfz60_4 := blk_frozen BK297.out 4; have hfz60_5 := blk_frozen BK297.out 5; have hfz60_6 := blk_frozen BK297.out 6; have hfz60_7 := blk_frozen BK297.out 7; have hfz60_8 := blk_frozen BK297.out 8; have hfz60_9 := blk_frozen BK297.out 9; have hfz60_10 := blk_frozen BK297.out 10) | ((with_reducible refine gate_callee (f := 27) rfl ?_); refine goesL_ (some 65) rfl rfl Try.func27 (by kernel_rfl) rfl #[.agg #[.int .i64 a0_0, .int .i64 a0_1, .int .i64 a0_2, .int .i64 a0_3, .int .i64 a0_4, .int .i64 a0_5, .int .i64 a0_6, .int .i64 a0_7, .int .i64 a0_8, .int .i64 a0_9, .int .i64 a0_10], .int .i64 a0_3] rfl (by (try simp only [List.map_toArray, List.map_cons, List.map_nil]); first | done | rfl | (simp only [List.length_drop, List.length_take]; rfl)) ?_; (with_reducible refine (ticket_Covers.calls a0_0 a0_1 a0_2 a0_3 a0_4 a0_5 a0_6 a0_7 a0_8 a0_9 a0_10 a0_3 t309 t310 _ A33.out).mono ?_); rintro e w61 ⟨rfl, hb⟩; refine ⟨_, rfl, ?_⟩; have n0_ := Aside0.mk (blk_below (g := gb297) (o := .cells #[.int .i64 a0_0, .int .i64 a0_1, .int .i64 a0_2, .int .i64 a0_3, .int .i64 a0_4, .int .i64 a0_5, .int .i64 a0_6, .int .i64 a0_7, .int .i64 a0_8, .int .i64 a0_9, .int .i64 a0_10] 23 (0, 0)) (by (with_reducible repeat (first | refine blk_drewN ?_ _ | refine blk_drew ?_ | refine blk_alloc ?_ _)); exact BK297.out) hb); have n1_ := Aside0.mk (below_step (by repeat (first | (with_reducible first | exact HB.out | apply below_alloc | apply pw_below_drewN | apply below_drew1 | refine below_set ?_ GE297.out) | exact HB.out)) hb); clear BK297; clear HB; have BK297 := n0_; have HB := n1_; clear n0_ n1_; (try clear hb); (try clear hb2); (try clear hk); (try clear hi); (try clear A33)) | ((with_reducible refine gate_callee (f := 29) rfl ?_); refine goesL_ (some 68) rfl rfl Try.func29 (by kernel_rfl) rfl #[] rfl (by (try simp only [List.map_toArray, List.map_cons, List.map_nil]); first | done | rfl | (simp only [List.length_drop, List.length_take]; rfl)) ?_; (with_reducible refine (gatelinelaw09_sold.calls k1  true _ A34.out).mono ?_); rintro e w62 ⟨rfl, hb⟩; refine ⟨_, rfl, ?_⟩; have n0_ := Aside0.mk (blk_below (g := gb297) (o := .cells #[.int .i64 a0_0, .int .i64 a0_1, .int .i64 a0_2, .int .i64 a0_3, .int .i64 a0_4, .int .i64 a0_5, .int .i64 a0_6, .int .i64 a0_7, .int .i64 a0_8, .int .i64 a0_9, .int .i64 a0_10] 23 (0, 0)) (by (with_reducible repeat (first | refine blk_drewN ?_ _ | refine blk_drew ?_ | refine blk_alloc ?_ _)); exact BK297.out) hb); have n1_ := Aside0.mk (below_step (by repeat (first | (with_reducible first | exact HB.out | apply below_alloc | apply pw_below_drewN | apply below_drew1 | refine below_set ?_ GE297.out) | exact HB.out)) hb); clear BK297; clear HB; have BK297 := n0_; have HB := n1_; clear n0_ n1_; (try clear hb); (try clear hb2); (try clear hk); (try clear hi); (try clear A34)))
                    go_ret
                    exact ⟨by first | rfl | (simp [errW_none, errW_some] <;> rfl) | (simp [*, errW_none, errW_some] <;> rfl), by repeat (first | (with_reducible first | exact HB.out | apply below_alloc | apply pw_below_drewN | apply below_drew1 | refine below_set ?_ GE297.out) | exact HB.out)⟩
                · rw [if_neg c37] at H
                  have c37b0 : (t310 == 0) = false := beq_eq_false_iff_ne.mpr c37
                  have c37b1 : (t310 != 0) = true := bne_iff_ne.mpr c37
                  obtain rfl := Option.some.inj H
                  have hcz63_0 : wr.cell? ⟨gb297, 0, none⟩ = some (.int .i64 a0_0) := (blk_cell BK297.out 0).trans rfl
                  have hcz63_1 : wr.cell? ⟨gb297, 1, none⟩ = some (.int .i64 a0_1) := (blk_cell BK297.out 1).trans rfl
                  have hcz63_2 : wr.cell? ⟨gb297, 2, none⟩ = some (.int .i64 a0_2) := (blk_cell BK297.out 2).trans rfl
                  have hcz63_3 : wr.cell? ⟨gb297, 3, none⟩ = some (.int .i64 a0_3) := (blk_cell BK297.out 3).trans rfl
                  have hcz63_4 : wr.cell? ⟨gb297, 4, none⟩ = some (.int .i64 a0_4) := (blk_cell BK297.out 4).trans rfl
                  have hcz63_5 : wr.cell? ⟨gb297, 5, none⟩ = some (.int .i64 a0_5) := (blk_cell BK297.out 5).trans rfl
                  have hcz63_6 : wr.cell? ⟨gb297, 6, none⟩ = some (.int .i64 a0_6) := (blk_cell BK297.out 6).trans rfl
                  have hcz63_7 : wr.cell? ⟨gb297, 7, none⟩ = some (.int .i64 a0_7) := (blk_cell BK297.out 7).trans rfl
                  have hcz63_8 : wr.cell? ⟨gb297, 8, none⟩ = some (.int .i64 a0_8) := (blk_cell BK297.out 8).trans rfl
                  have hcz63_9 : wr.cell? ⟨gb297, 9, none⟩ = some (.int .i64 a0_9) := (blk_cell BK297.out 9).trans rfl
                  have hcz63_10 : wr.cell? ⟨gb297, 10, none⟩ = some (.int .i64 a0_10) := (blk_cell BK297.out 10).trans rfl
                  have hfz63_0 := blk_frozen BK297.out 0
                  have hfz63_1 := blk_frozen BK297.out 1
                  have hfz63_2 := blk_frozen BK297.out 2
                  have hfz63_3 := blk_frozen BK297.out 3
                  have hfz63_4 := blk_frozen BK297.out 4
                  have hfz63_5 := blk_frozen BK297.out 5
                  have hfz63_6 := blk_frozen BK297.out 6
                  have hfz63_7 := blk_frozen BK297.out 7
                  have hfz63_8 := blk_frozen BK297.out 8
                  have hfz63_9 := blk_frozen BK297.out 9
                  have hfz63_10 := blk_frozen BK297.out 10
                  go_wp2_with (first | ((with_reducible refine gate_callee (f := 27) rfl ?_); refine goesL_ (some 58) rfl rfl Try.func27 (by kernel_rfl) rfl #[.agg #[.int .i64 a0_0, .int .i64 a0_1, .int .i64 a0_2, .int .i64 a0_3, .int .i64 a0_4, .int .i64 a0_5, .int .i64 a0_6, .int .i64 a0_7, .int .i64 a0_8, .int .i64 a0_9, .int .i64 a0_10], .int .i64 a0_2] rfl (by (try simp only [List.map_toArray, List.map_cons, List.map_nil]); first | done | rfl | (simp only [List.length_drop, List.length_take]; rfl)) ?_; (with_reducible refine (ticket_Covers.calls a0_0 a0_1 a0_2 a0_3 a0_4 a0_5 a0_6 a0_7 a0_8 a0_9 a0_10 a0_2 t307 t308 _ A32.out).mono ?_); rintro e w64 ⟨rfl, hb⟩; refine ⟨_, rfl, ?_⟩; have n0_ := Aside0.mk (blk_below (g := gb297) (o := .cells #[.int .i64 a0_0, .int .i64 a0_1, .int .i64 a0_2, .int .i64 a0_3, .int .i64 a0_4, .int .i64 a0_5, .int .i64 a0_6, .int .i64 a0_7, .int .i64 a0_8, .int .i64 a0_9, .int .i64 a0_10] 23 (0, 0)) (by (with_reducible repeat (first | refine blk_drewN ?_ _ | refine blk_drew ?_ | refine blk_alloc ?_ _)); exact BK297.out) hb); have n1_ := Aside0.mk (below_step (by repeat (first | (with_reducible first | exact HB.out | apply below_alloc | apply pw_below_drewN | apply below_drew1 | refine below_set ?_ GE297.out) | exact HB.out)) hb); clear BK297; clear HB; have BK297 := n0_; have HB := n1_; clear n0_ n1_; (try clear hb); (try clear hb2); (try clear hk); (try clear hi); (try clear A32); have hcz65_0 : w64.cell? ⟨gb297, 0, none⟩ = some (.int .i64 a0_0) := (blk_cell BK297.out 0).trans rfl; have hcz65_1 : w64.cell? ⟨gb297, 1, none⟩ = some (.int .i64 a0_1) := (blk_cell BK297.out 1).trans rfl; have hcz65_2 : w64.cell? ⟨gb297, 2, none⟩ = some (.int .i64 a0_2) := (blk_cell BK297.out 2).trans rfl; have hcz65_3 : w64.cell? ⟨gb297, 3, none⟩ = some (.int .i64 a0_3) := (blk_cell BK297.out 3).trans rfl; have hcz65_4 : w64.cell? ⟨gb297, 4, none⟩ = some (.int .i64 a0_4) := (blk_cell BK297.out 4).trans rfl; have hcz65_5 : w64.cell? ⟨gb297, 5, none⟩ = some (.int .i64 a0_5) := (blk_cell BK297.out 5).trans rfl; have hcz65_6 : w64.cell? ⟨gb297, 6, none⟩ = some (.int .i64 a0_6) := (blk_cell BK297.out 6).trans rfl; have hcz65_7 : w64.cell? ⟨gb297, 7, none⟩ = some (.int .i64 a0_7) := (blk_cell BK297.out 7).trans rfl; have hcz65_8 : w64.cell? ⟨gb297, 8, none⟩ = some (.int .i64 a0_8) := (blk_cell BK297.out 8).trans rfl; have hcz65_9 : w64.cell? ⟨gb297, 9, none⟩ = some (.int .i64 a0_9) := (blk_cell BK297.out 9).trans rfl; have hcz65_10 : w64.cell? ⟨gb297, 10, none⟩ = some (.int .i64 a0_10) := (blk_cell BK297.out 10).trans rfl; have hfz65_0 := blk_frozen BK297.out 0; have hfz65_1 := blk_frozen BK297.out 1; have hfz65_2 := blk_frozen BK297.out 2; have hfz65_3 := blk_frozen BK297.out 3; have hfz65_4 := blk_frozen BK297.out 4; have hfz65_5 := blk_frozen BK297.out 5; have hfz65_6 := blk_frozen BK297.out 6; have hfz65_7 := blk_frozen BK297.out 7; have hfz65_8 := blk_frozen BK297.out 8; have hfz65_9 := blk_frozen BK297.out 9; have hfz65_10 := blk_frozen BK297.out 10) | ((with_reducible refine gate_callee (f := 27) rfl ?_); refine goesL_ (some 65) rfl rfl Try.func27 (by kernel_rfl) rfl #[.agg #[.int .i64 a0_0, .int .i64 a0_1, .int .i64 a0_2, .int .i64 a0_3, .int .i64 a0_4, .int .i64 a0_5, .int .i64 a0_6, .int .i64 a0_7, .int .i64 a0_8, .int .i64 a0_9, .int .i64 a0_10], .int .i64 a0_3] rfl (by (try simp only [List.map_toArray, List.map_cons, List.map_nil]); first | done | rfl | (simp only [List.length_drop, List.length_take]; rfl)) ?_; (with_reducible refine (ticket_Covers.calls a0_0 a0_1 a0_2 a0_3 a0_4 a0_5 a0_6 a0_7 a0_8 a0_9 a0_10 a0_3 t309 t310 _ A33.out).mono ?_); rintro e w66 ⟨rfl, hb⟩; refine ⟨_, rfl, ?_⟩; have n0_ := Aside0.mk (blk_below (g := gb297) (o := .cells #[.int .i64 a0_0, .int .i64 a0_1, .int .i64 a0_2, .int .i64 a0_3, .int .i64 a0_4, .int .i64 a0_5, .int .i64 a0_6, .int .i64 a0_7, .int .i64 a0_8, .int .i64 a0_9, .int .i64 a0_10] 23 (0, 0)) (by (with_reducible repeat (first | refine blk_drewN ?_ _ | refine blk_drew ?_ | refine blk_alloc ?_ _)); exact BK297.out) hb); have n1_ := Aside0.mk (below_step (by repeat (first | (with_reducible first | exact HB.out | apply below_alloc | apply pw_below_drewN | apply below_drew1 | refine below_set ?_ GE297.out) | exact HB.out)) hb); clear BK297; clear HB; have BK297 := n0_; have HB := n1_; clear n0_ n1_; (try clear hb); (try clear hb2); (try clear hk); (try clear hi); (try clear A33)) | ((with_reducible refine gate_callee (f := 29) rfl ?_); refine goesL_ (some 68) rfl rfl Try.func29 (by kernel_rfl) rfl #[] rfl (by (try simp only [List.map_toArray, List.map_cons, List.map_nil]); first | done | rfl | (simp only [List.length_drop, List.length_take]; rfl)) ?_; (with_reducible refine (gatelinelaw09_sold.calls k1  true _ A34.out).mono ?_); rintro e w67 ⟨rfl, hb⟩; refine ⟨_, rfl, ?_⟩; have n0_ := Aside0.mk (blk_below (g := gb297) (o := .cells #[.int .i64 a0_0, .int .i64 a0_1, .int .i64 a0_2, .int .i64 a0_3, .int .i64 a0_4, .int .i64 a0_5, .int .i64 a0_6, .int .i64 a0_7, .int .i64 a0_8, .int .i64 a0_9, .int .i64 a0_10] 23 (0, 0)) (by (with_reducible repeat (first | refine blk_drewN ?_ _ | refine blk_drew ?_ | refine blk_alloc ?_ _)); exact BK297.out) hb); have n1_ := Aside0.mk (below_step (by repeat (first | (with_reducible first | exact HB.out | apply below_alloc | apply pw_below_drewN | apply below_drew1 | refine below_set ?_ GE297.out) | exact HB.out)) hb); clear BK297; clear HB; have BK297 := n0_; have HB := n1_; clear n0_ n1_; (try clear hb); (try clear hb2); (try clear hk); (try clear hi); (try clear A34)))
                  go_ret
                  exact ⟨by first | rfl | (simp [errW_none, errW_some] <;> rfl) | (simp [*, errW_none, errW_some] <;> rfl), by repeat (first | (with_reducible first | exact HB.out | apply below_alloc | apply pw_below_drewN | apply below_drew1 | refine below_set ?_ GE297.out) | exact HB.out)⟩
              · rw [if_neg c36] at H
                have c36b0 : (t308 == 0) = false := beq_eq_false_iff_ne.mpr c36
                have c36b1 : (t308 != 0) = true := bne_iff_ne.mpr c36
                obtain rfl := Option.some.inj H
                have hcz68_0 : wr.cell? ⟨gb297, 0, none⟩ = some (.int .i64 a0_0) := (blk_cell BK297.out 0).trans rfl
                have hcz68_1 : wr.cell? ⟨gb297, 1, none⟩ = some (.int .i64 a0_1) := (blk_cell BK297.out 1).trans rfl
                have hcz68_2 : wr.cell? ⟨gb297, 2, none⟩ = some (.int .i64 a0_2) := (blk_cell BK297.out 2).trans rfl
                have hcz68_3 : wr.cell? ⟨gb297, 3, none⟩ = some (.int .i64 a0_3) := (blk_cell BK297.out 3).trans rfl
                have hcz68_4 : wr.cell? ⟨gb297, 4, none⟩ = some (.int .i64 a0_4) := (blk_cell BK297.out 4).trans rfl
                have hcz68_5 : wr.cell? ⟨gb297, 5, none⟩ = some (.int .i64 a0_5) := (blk_cell BK297.out 5).trans rfl
                have hcz68_6 : wr.cell? ⟨gb297, 6, none⟩ = some (.int .i64 a0_6) := (blk_cell BK297.out 6).trans rfl
                have hcz68_7 : wr.cell? ⟨gb297, 7, none⟩ = some (.int .i64 a0_7) := (blk_cell BK297.out 7).trans rfl
                have hcz68_8 : wr.cell? ⟨gb297, 8, none⟩ = some (.int .i64 a0_8) := (blk_cell BK297.out 8).trans rfl
                have hcz68_9 : wr.cell? ⟨gb297, 9, none⟩ = some (.int .i64 a0_9) := (blk_cell BK297.out 9).trans rfl
                have hcz68_10 : wr.cell? ⟨gb297, 10, none⟩ = some (.int .i64 a0_10) := (blk_cell BK297.out 10).trans rfl
                have hfz68_0 := blk_frozen BK297.out 0
                have hfz68_1 := blk_frozen BK297.out 1
                have hfz68_2 := blk_frozen BK297.out 2
                have hfz68_3 := blk_frozen BK297.out 3
                have hfz68_4 := blk_frozen BK297.out 4
                have hfz68_5 := blk_frozen BK297.out 5
                have hfz68_6 := blk_frozen BK297.out 6
                have hfz68_7 := blk_frozen BK297.out 7
                have hfz68_8 := blk_frozen BK297.out 8
                have hfz68_9 := blk_frozen BK297.out 9
                have hfz68_10 := blk_frozen BK297.out 10
                go_wp2_with (first | ((with_reducible refine gate_callee (f := 27) rfl ?_); refine goesL_ (some 58) rfl rfl Try.func27 (by kernel_rfl) rfl #[.agg #[.int .i64 a0_0, .int .i64 a0_1, .int .i64 a0_2, .int .i64 a0_3, .int .i64 a0_4, .int .i64 a0_5, .int .i64 a0_6, .int .i64 a0_7, .int .i64 a0_8, .int .i64 a0_9, .int .i64 a0_10], .int .i64 a0_2] rfl (by (try simp only [List.map_toArray, List.map_cons, List.map_nil]); first | done | rfl | (simp only [List.length_drop, List.length_take]; rfl)) ?_; (with_reducible refine (ticket_Covers.calls a0_0 a0_1 a0_2 a0_3 a0_4 a0_5 a0_6 a0_7 a0_8 a0_9 a0_10 a0_2 t307 t308 _ A32.out).mono ?_); rintro e w69 ⟨rfl, hb⟩; refine ⟨_, rfl, ?_⟩; have n0_ := Aside0.mk (blk_below (g := gb297) (o := .cells #[.int .i64 a0_0, .int .i64 a0_1, .int .i64 a0_2, .int .i64 a0_3, .int .i64 a0_4, .int .i64 a0_5, .int .i64 a0_6, .int .i64 a0_7, .int .i64 a0_8, .int .i64 a0_9, .int .i64 a0_10] 23 (0, 0)) (by (with_reducible repeat (first | refine blk_drewN ?_ _ | refine blk_drew ?_ | refine blk_alloc ?_ _)); exact BK297.out) hb); have n1_ := Aside0.mk (below_step (by repeat (first | (with_reducible first | exact HB.out | apply below_alloc | apply pw_below_drewN | apply below_drew1 | refine below_set ?_ GE297.out) | exact HB.out)) hb); clear BK297; clear HB; have BK297 := n0_; have HB := n1_; clear n0_ n1_; (try clear hb); (try clear hb2); (try clear hk); (try clear hi); (try clear A32); have hcz70_0 : w69.cell? ⟨gb297, 0, none⟩ = some (.int .i64 a0_0) := (blk_cell BK297.out 0).trans rfl; have hcz70_1 : w69.cell? ⟨gb297, 1, none⟩ = some (.int .i64 a0_1) := (blk_cell BK297.out 1).trans rfl; have hcz70_2 : w69.cell? ⟨gb297, 2, none⟩ = some (.int .i64 a0_2) := (blk_cell BK297.out 2).trans rfl; have hcz70_3 : w69.cell? ⟨gb297, 3, none⟩ = some (.int .i64 a0_3) := (blk_cell BK297.out 3).trans rfl; have hcz70_4 : w69.cell? ⟨gb297, 4, none⟩ = some (.int .i64 a0_4) := (blk_cell BK297.out 4).trans rfl; have hcz70_5 : w69.cell? ⟨gb297, 5, none⟩ = some (.int .i64 a0_5) := (blk_cell BK297.out 5).trans rfl; have hcz70_6 : w69.cell? ⟨gb297, 6, none⟩ = some (.int .i64 a0_6) := (blk_cell BK297.out 6).trans rfl; have hcz70_7 : w69.cell? ⟨gb297, 7, none⟩ = some (.int .i64 a0_7) := (blk_cell BK297.out 7).trans rfl; have hcz70_8 : w69.cell? ⟨gb297, 8, none⟩ = some (.int .i64 a0_8) := (blk_cell BK297.out 8).trans rfl; have hcz70_9 : w69.cell? ⟨gb297, 9, none⟩ = some (.int .i64 a0_9) := (blk_cell BK297.out 9).trans rfl; have hcz70_10 : w69.cell? ⟨gb297, 10, none⟩ = some (.int .i64 a0_10) := (blk_cell BK297.out 10).trans rfl; have hfz70_0 := blk_frozen BK297.out 0; have hfz70_1 := blk_frozen BK297.out 1; have hfz70_2 := blk_frozen BK297.out 2; have hfz70_3 := blk_frozen BK297.out 3; have hfz70_4 := blk_frozen BK297.out 4; have hfz70_5 := blk_frozen BK297.out 5; have hfz70_6 := blk_frozen BK297.out 6; have hfz70_7 := blk_frozen BK297.out 7; have hfz70_8 := blk_frozen BK297.out 8; have hfz70_9 := blk_frozen BK297.out 9; have hfz70_10 := blk_frozen BK297.out 10) | ((with_reducible refine gate_callee (f := 27) rfl ?_); refine goesL_ (some 65) rfl rfl Try.func27 (by kernel_rfl) rfl #[.agg #[.int .i64 a0_0, .int .i64 a0_1, .int .i64 a0_2, .int .i64 a0_3, .int .i64 a0_4, .int .i64 a0_5, .int .i64 a0_6, .int .i64 a0_7, .int .i64 a0_8, .int .i64 a0_9, .int .i64 a0_10], .int .i64 a0_3] rfl (by (try simp only [List.map_toArray, List.map_cons, List.map_nil]); first | done | rfl | (simp only [List.length_drop, List.length_take]; rfl)) ?_; (with_reducible refine (ticket_Covers.calls a0_0 a0_1 a0_2 a0_3 a0_4 a0_5 a0_6 a0_7 a0_8 a0_9 a0_10 a0_3 t309 t310 _ A33.out).mono ?_); rintro e w71 ⟨rfl, hb⟩; refine ⟨_, rfl, ?_⟩; have n0_ := Aside0.mk (blk_below (g := gb297) (o := .cells #[.int .i64 a0_0, .int .i64 a0_1, .int .i64 a0_2, .int .i64 a0_3, .int .i64 a0_4, .int .i64 a0_5, .int .i64 a0_6, .int .i64 a0_7, .int .i64 a0_8, .int .i64 a0_9, .int .i64 a0_10] 23 (0, 0)) (by (with_reducible repeat (first | refine blk_drewN ?_ _ | refine blk_drew ?_ | refine blk_alloc ?_ _)); exact BK297.out) hb); have n1_ := Aside0.mk (below_step (by repeat (first | (with_reducible first | exact HB.out | apply below_alloc | apply pw_below_drewN | apply below_drew1 | refine below_set ?_ GE297.out) | exact HB.out)) hb); clear BK297; clear HB; have BK297 := n0_; have HB := n1_; clear n0_ n1_; (try clear hb); (try clear hb2); (try clear hk); (try clear hi); (try clear A33)) | ((with_reducible refine gate_callee (f := 29) rfl ?_); refine goesL_ (some 68) rfl rfl Try.func29 (by kernel_rfl) rfl #[] rfl (by (try simp only [List.map_toArray, List.map_cons, List.map_nil]); first | done | rfl | (simp only [List.length_drop, List.length_take]; rfl)) ?_; (with_reducible refine (gatelinelaw09_sold.calls k1  true _ A34.out).mono ?_); rintro e w72 ⟨rfl, hb⟩; refine ⟨_, rfl, ?_⟩; have n0_ := Aside0.mk (blk_below (g := gb297) (o := .cells #[.int .i64 a0_0, .int .i64 a0_1, .int .i64 a0_2, .int .i64 a0_3, .int .i64 a0_4, .int .i64 a0_5, .int .i64 a0_6, .int .i64 a0_7, .int .i64 a0_8, .int .i64 a0_9, .int .i64 a0_10] 23 (0, 0)) (by (with_reducible repeat (first | refine blk_drewN ?_ _ | refine blk_drew ?_ | refine blk_alloc ?_ _)); exact BK297.out) hb); have n1_ := Aside0.mk (below_step (by repeat (first | (with_reducible first | exact HB.out | apply below_alloc | apply pw_below_drewN | apply below_drew1 | refine below_set ?_ GE297.out) | exact HB.out)) hb); clear BK297; clear HB; have BK297 := n0_; have HB := n1_; clear n0_ n1_; (try clear hb); (try clear hb2); (try clear hk); (try clear hi); (try clear A34)))
                go_ret
                exact ⟨by first | rfl | (simp [errW_none, errW_some] <;> rfl) | (simp [*, errW_none, errW_some] <;> rfl), by repeat (first | (with_reducible first | exact HB.out | apply below_alloc | apply pw_below_drewN | apply below_drew1 | refine below_set ?_ GE297.out) | exact HB.out)⟩
            · replace c35 := Bool.eq_false_iff.mpr c35
              subst c35
              have H1 : (some false) = some r := by rw [if_neg (show ¬ (false = true) by decide)] at H; exact H
              clear H
              have H := H1
              clear H1
              obtain rfl := Option.some.inj H
              have hcz73_0 : wr.cell? ⟨gb297, 0, none⟩ = some (.int .i64 a0_0) := (blk_cell BK297.out 0).trans rfl
              have hcz73_1 : wr.cell? ⟨gb297, 1, none⟩ = some (.int .i64 a0_1) := (blk_cell BK297.out 1).trans rfl
              have hcz73_2 : wr.cell? ⟨gb297, 2, none⟩ = some (.int .i64 a0_2) := (blk_cell BK297.out 2).trans rfl
              have hcz73_3 : wr.cell? ⟨gb297, 3, none⟩ = some (.int .i64 a0_3) := (blk_cell BK297.out 3).trans rfl
              have hcz73_4 : wr.cell? ⟨gb297, 4, none⟩ = some (.int .i64 a0_4) := (blk_cell BK297.out 4).trans rfl
              have hcz73_5 : wr.cell? ⟨gb297, 5, none⟩ = some (.int .i64 a0_5) := (blk_cell BK297.out 5).trans rfl
              have hcz73_6 : wr.cell? ⟨gb297, 6, none⟩ = some (.int .i64 a0_6) := (blk_cell BK297.out 6).trans rfl
              have hcz73_7 : wr.cell? ⟨gb297, 7, none⟩ = some (.int .i64 a0_7) := (blk_cell BK297.out 7).trans rfl
              have hcz73_8 : wr.cell? ⟨gb297, 8, none⟩ = some (.int .i64 a0_8) := (blk_cell BK297.out 8).trans rfl
              have hcz73_9 : wr.cell? ⟨gb297, 9, none⟩ = some (.int .i64 a0_9) := (blk_cell BK297.out 9).trans rfl
              have hcz73_10 : wr.cell? ⟨gb297, 10, none⟩ = some (.int .i64 a0_10) := (blk_cell BK297.out 10).trans rfl
              have hfz73_0 := blk_frozen BK297.out 0
              have hfz73_1 := blk_frozen BK297.out 1
              have hfz73_2 := blk_frozen BK297.out 2
              have hfz73_3 := blk_frozen BK297.out 3
              have hfz73_4 := blk_frozen BK297.out 4
              have hfz73_5 := blk_frozen BK297.out 5
              have hfz73_6 := blk_frozen BK297.out 6
              have hfz73_7 := blk_frozen BK297.out 7
              have hfz73_8 := blk_frozen BK297.out 8
              have hfz73_9 := blk_frozen BK297.out 9
              have hfz73_10 := blk_frozen BK297.out 10
              go_wp2_with (first | ((with_reducible refine gate_callee (f := 27) rfl ?_); refine goesL_ (some 58) rfl rfl Try.func27 (by kernel_rfl) rfl #[.agg #[.int .i64 a0_0, .int .i64 a0_1, .int .i64 a0_2, .int .i64 a0_3, .int .i64 a0_4, .int .i64 a0_5, .int .i64 a0_6, .int .i64 a0_7, .int .i64 a0_8, .int .i64 a0_9, .int .i64 a0_10], .int .i64 a0_2] rfl (by (try simp only [List.map_toArray, List.map_cons, List.map_nil]); first | done | rfl | (simp only [List.length_drop, List.length_take]; rfl)) ?_; (with_reducible refine (ticket_Covers.calls a0_0 a0_1 a0_2 a0_3 a0_4 a0_5 a0_6 a0_7 a0_8 a0_9 a0_10 a0_2 t307 t308 _ A32.out).mono ?_); rintro e w74 ⟨rfl, hb⟩; refine ⟨_, rfl, ?_⟩; have n0_ := Aside0.mk (blk_below (g := gb297) (o := .cells #[.int .i64 a0_0, .int .i64 a0_1, .int .i64 a0_2, .int .i64 a0_3, .int .i64 a0_4, .int .i64 a0_5, .int .i64 a0_6, .int .i64 a0_7, .int .i64 a0_8, .int .i64 a0_9, .int .i64 a0_10] 23 (0, 0)) (by (with_reducible repeat (first | refine blk_drewN ?_ _ | refine blk_drew ?_ | refine blk_alloc ?_ _)); exact BK297.out) hb); have n1_ := Aside0.mk (below_step (by repeat (first | (with_reducible first | exact HB.out | apply below_alloc | apply pw_below_drewN | apply below_drew1 | refine below_set ?_ GE297.out) | exact HB.out)) hb); clear BK297; clear HB; have BK297 := n0_; have HB := n1_; clear n0_ n1_; (try clear hb); (try clear hb2); (try clear hk); (try clear hi); (try clear A32); have hcz75_0 : w74.cell? ⟨gb297, 0, none⟩ = some (.int .i64 a0_0) := (blk_cell BK297.out 0).trans rfl; have hcz75_1 : w74.cell? ⟨gb297, 1, none⟩ = some (.int .i64 a0_1) := (blk_cell BK297.out 1).trans rfl; have hcz75_2 : w74.cell? ⟨gb297, 2, none⟩ = some (.int .i64 a0_2) := (blk_cell BK297.out 2).trans rfl; have hcz75_3 : w74.cell? ⟨gb297, 3, none⟩ = some (.int .i64 a0_3) := (blk_cell BK297.out 3).trans rfl; have hcz75_4 : w74.cell? ⟨gb297, 4, none⟩ = some (.int .i64 a0_4) := (blk_cell BK297.out 4).trans rfl; have hcz75_5 : w74.cell? ⟨gb297, 5, none⟩ = some (.int .i64 a0_5) := (blk_cell BK297.out 5).trans rfl; have hcz75_6 : w74.cell? ⟨gb297, 6, none⟩ = some (.int .i64 a0_6) := (blk_cell BK297.out 6).trans rfl; have hcz75_7 : w74.cell? ⟨gb297, 7, none⟩ = some (.int .i64 a0_7) := (blk_cell BK297.out 7).trans rfl; have hcz75_8 : w74.cell? ⟨gb297, 8, none⟩ = some (.int .i64 a0_8) := (blk_cell BK297.out 8).trans rfl; have hcz75_9 : w74.cell? ⟨gb297, 9, none⟩ = some (.int .i64 a0_9) := (blk_cell BK297.out 9).trans rfl; have hcz75_10 : w74.cell? ⟨gb297, 10, none⟩ = some (.int .i64 a0_10) := (blk_cell BK297.out 10).trans rfl; have hfz75_0 := blk_frozen BK297.out 0; have hfz75_1 := blk_frozen BK297.out 1; have hfz75_2 := blk_frozen BK297.out 2; have hfz75_3 := blk_frozen BK297.out 3; have hfz75_4 := blk_frozen BK297.out 4; have hfz75_5 := blk_frozen BK297.out 5; have hfz75_6 := blk_frozen BK297.out 6; have hfz75_7 := blk_frozen BK297.out 7; have hfz75_8 := blk_frozen BK297.out 8; have hfz75_9 := blk_frozen BK297.out 9; have hfz75_10 := blk_frozen BK297.out 10) | ((with_reducible refine gate_callee (f := 27) rfl ?_); refine goesL_ (some 65) rfl rfl Try.func27 (by kernel_rfl) rfl #[.agg #[.int .i64 a0_0, .int .i64 a0_1, .int .i64 a0_2, .int .i64 a0_3, .int .i64 a0_4, .int .i64 a0_5, .int .i64 a0_6, .int .i64 a0_7, .int .i64 a0_8, .int .i64 a0_9, .int .i64 a0_10], .int .i64 a0_3] rfl (by (try simp only [List.map_toArray, List.map_cons, List.map_nil]); first | done | rfl | (simp only [List.length_drop, List.length_take]; rfl)) ?_; (with_reducible refine (ticket_Covers.calls a0_0 a0_1 a0_2 a0_3 a0_4 a0_5 a0_6 a0_7 a0_8 a0_9 a0_10 a0_3 t309 t310 _ A33.out).mono ?_); rintro e w76 ⟨rfl, hb⟩; refine ⟨_, rfl, ?_⟩; have n0_ := Aside0.mk (blk_below (g := gb297) (o := .cells #[.int .i64 a0_0, .int .i64 a0_1, .int .i64 a0_2, .int .i64 a0_3, .int .i64 a0_4, .int .i64 a0_5, .int .i64 a0_6, .int .i64 a0_7, .int .i64 a0_8, .int .i64 a0_9, .int .i64 a0_10] 23 (0, 0)) (by (with_reducible repeat (first | refine blk_drewN ?_ _ | refine blk_drew ?_ | refine blk_alloc ?_ _)); exact BK297.out) hb); have n1_ := Aside0.mk (below_step (by repeat (first | (with_reducible first | exact HB.out | apply below_alloc | apply pw_below_drewN | apply below_drew1 | refine below_set ?_ GE297.out) | exact HB.out)) hb); clear BK297; clear HB; have BK297 := n0_; have HB := n1_; clear n0_ n1_; (try clear hb); (try clear hb2); (try clear hk); (try clear hi); (try clear A33)) | ((with_reducible refine gate_callee (f := 29) rfl ?_); refine goesL_ (some 68) rfl rfl Try.func29 (by kernel_rfl) rfl #[] rfl (by (try simp only [List.map_toArray, List.map_cons, List.map_nil]); first | done | rfl | (simp only [List.length_drop, List.length_take]; rfl)) ?_; (with_reducible refine (gatelinelaw09_sold.calls k1  false _ A34.out).mono ?_); rintro e w77 ⟨rfl, hb⟩; refine ⟨_, rfl, ?_⟩; have n0_ := Aside0.mk (blk_below (g := gb297) (o := .cells #[.int .i64 a0_0, .int .i64 a0_1, .int .i64 a0_2, .int .i64 a0_3, .int .i64 a0_4, .int .i64 a0_5, .int .i64 a0_6, .int .i64 a0_7, .int .i64 a0_8, .int .i64 a0_9, .int .i64 a0_10] 23 (0, 0)) (by (with_reducible repeat (first | refine blk_drewN ?_ _ | refine blk_drew ?_ | refine blk_alloc ?_ _)); exact BK297.out) hb); have n1_ := Aside0.mk (below_step (by repeat (first | (with_reducible first | exact HB.out | apply below_alloc | apply pw_below_drewN | apply below_drew1 | refine below_set ?_ GE297.out) | exact HB.out)) hb); clear BK297; clear HB; have BK297 := n0_; have HB := n1_; clear n0_ n1_; (try clear hb); (try clear hb2); (try clear hk); (try clear hi); (try clear A34)))
              go_ret
              exact ⟨by first | rfl | (simp [errW_none, errW_some] <;> rfl) | (simp [*, errW_none, errW_some] <;> rfl), by repeat (first | (with_reducible first | exact HB.out | apply below_alloc | apply pw_below_drewN | apply below_drew1 | refine below_set ?_ GE297.out) | exact HB.out)⟩
  · replace c3 := Bool.eq_false_iff.mpr c3
    subst c3
    have H1 : ((gatelinelaw09_sold.f k).bind fun t299 => (some t299)) = some r := by rw [if_neg (show ¬ (false = true) by decide)] at H; exact H
    clear H
    have H := H1
    clear H1
    replace H := Option.bind_eq_some_iff.mp H
    obtain ⟨t299, A780, H⟩ := H
    replace H : (some t299) = some r := H
    have A78 := Aside0.mk A780
    clear A780
    obtain rfl := Option.some.inj H
    go_enter Try.func10, Try.ntmps10
    go_wp2_with (first | ((with_reducible refine gate_dst (N := 1) rfl ?_); (try (refine gate_guard (by rfl) ?_; dsimp only)); refine box_event ?hg (N := 1) ?hd (cs := #[.int .i64 a0_0, .int .i64 a0_1, .int .i64 a0_2, .int .i64 a0_3, .int .i64 a0_4, .int .i64 a0_5, .int .i64 a0_6, .int .i64 a0_7, .int .i64 a0_8, .int .i64 a0_9, .int .i64 a0_10]) (t := 23) ?hr ?_; (case hd => rfl); (case hg => rfl); (case hr => first | (go_simp; done) | (go_simp; rfl)); intro gb297 hg w79 hbox hb; have n0_ := Aside0.mk (below_step (by repeat (first | (with_reducible first | exact HB.out | apply below_alloc | apply pw_below_drewN | apply below_drew1) | exact HB.out)) hb); have n1_ := Aside0.mk (hbox); have n2_ := Aside0.mk ((by rw [hg]; exact (below_size (by repeat (first | (with_reducible first | exact HB.out | apply below_alloc | apply pw_below_drewN | apply below_drew1) | exact HB.out))) : w.heap.size ≤ gb297)); have n3_ := Aside0.mk ((by rw [hg]; exact (below_size (by repeat (first | (with_reducible first | exact HB.out | apply below_alloc | apply pw_below_drewN | apply below_drew1) | exact HB.out))) : w.heap.size ≤ gb297)); clear HB; have HB := n0_; have BK297 := n1_; have GW297 := n2_; have GE297 := n3_; clear n0_ n1_ n2_ n3_; clear hb hbox hg; have hcz80_0 : w79.cell? ⟨gb297, 0, none⟩ = some (.int .i64 a0_0) := (blk_cell BK297.out 0).trans rfl; have hcz80_1 : w79.cell? ⟨gb297, 1, none⟩ = some (.int .i64 a0_1) := (blk_cell BK297.out 1).trans rfl; have hcz80_2 : w79.cell? ⟨gb297, 2, none⟩ = some (.int .i64 a0_2) := (blk_cell BK297.out 2).trans rfl; have hcz80_3 : w79.cell? ⟨gb297, 3, none⟩ = some (.int .i64 a0_3) := (blk_cell BK297.out 3).trans rfl; have hcz80_4 : w79.cell? ⟨gb297, 4, none⟩ = some (.int .i64 a0_4) := (blk_cell BK297.out 4).trans rfl; have hcz80_5 : w79.cell? ⟨gb297, 5, none⟩ = some (.int .i64 a0_5) := (blk_cell BK297.out 5).trans rfl; have hcz80_6 : w79.cell? ⟨gb297, 6, none⟩ = some (.int .i64 a0_6) := (blk_cell BK297.out 6).trans rfl; have hcz80_7 : w79.cell? ⟨gb297, 7, none⟩ = some (.int .i64 a0_7) := (blk_cell BK297.out 7).trans rfl; have hcz80_8 : w79.cell? ⟨gb297, 8, none⟩ = some (.int .i64 a0_8) := (blk_cell BK297.out 8).trans rfl; have hcz80_9 : w79.cell? ⟨gb297, 9, none⟩ = some (.int .i64 a0_9) := (blk_cell BK297.out 9).trans rfl; have hcz80_10 : w79.cell? ⟨gb297, 10, none⟩ = some (.int .i64 a0_10) := (blk_cell BK297.out 10).trans rfl; have hfz80_0 := blk_frozen BK297.out 0; have hfz80_1 := blk_frozen BK297.out 1; have hfz80_2 := blk_frozen BK297.out 2; have hfz80_3 := blk_frozen BK297.out 3; have hfz80_4 := blk_frozen BK297.out 4; have hfz80_5 := blk_frozen BK297.out 5; have hfz80_6 := blk_frozen BK297.out 6; have hfz80_7 := blk_frozen BK297.out 7; have hfz80_8 := blk_frozen BK297.out 8; have hfz80_9 := blk_frozen BK297.out 9; have hfz80_10 := blk_frozen BK297.out 10) | ((with_reducible refine gate_callee (f := 30) rfl ?_); refine goesL_ (some 14) rfl rfl Try.func30 (by kernel_rfl) rfl #[.agg #[.int .i64 a0_0, .int .i64 a0_1, .int .i64 a0_2, .int .i64 a0_3, .int .i64 a0_4, .int .i64 a0_5, .int .i64 a0_6, .int .i64 a0_7, .int .i64 a0_8, .int .i64 a0_9, .int .i64 a0_10]] rfl (by (try simp only [List.map_toArray, List.map_cons, List.map_nil]); first | done | rfl | (simp only [List.length_drop, List.length_take]; rfl)) ?_; (with_reducible refine (ticket_Is.calls a0_0 a0_1 a0_2 a0_3 a0_4 a0_5 a0_6 a0_7 a0_8 a0_9 a0_10 false _ A2.out).mono ?_); rintro e w81 ⟨rfl, hb⟩; refine ⟨_, rfl, ?_⟩; have n0_ := Aside0.mk (blk_below (g := gb297) (o := .cells #[.int .i64 a0_0, .int .i64 a0_1, .int .i64 a0_2, .int .i64 a0_3, .int .i64 a0_4, .int .i64 a0_5, .int .i64 a0_6, .int .i64 a0_7, .int .i64 a0_8, .int .i64 a0_9, .int .i64 a0_10] 23 (0, 0)) (by (with_reducible repeat (first | refine blk_drewN ?_ _ | refine blk_drew ?_ | refine blk_alloc ?_ _)); exact BK297.out) hb); have n1_ := Aside0.mk (below_step (by repeat (first | (with_reducible first | exact HB.out | apply below_alloc | apply pw_below_drewN | apply below_drew1 | refine below_set ?_ GE297.out) | exact HB.out)) hb); clear BK297; clear HB; have BK297 := n0_; have HB := n1_; clear n0_ n1_; (try clear hb); (try clear hb2); (try clear hk); (try clear hi); (try clear A2)) | ((with_reducible refine gate_callee (f := 29) rfl ?_); refine goesL_ (some 16) rfl rfl Try.func29 (by kernel_rfl) rfl #[] rfl (by (try simp only [List.map_toArray, List.map_cons, List.map_nil]); first | done | rfl | (simp only [List.length_drop, List.length_take]; rfl)) ?_; (with_reducible refine (gatelinelaw09_sold.calls k  t299 _ A78.out).mono ?_); rintro e w82 ⟨rfl, hb⟩; refine ⟨_, rfl, ?_⟩; have n0_ := Aside0.mk (blk_below (g := gb297) (o := .cells #[.int .i64 a0_0, .int .i64 a0_1, .int .i64 a0_2, .int .i64 a0_3, .int .i64 a0_4, .int .i64 a0_5, .int .i64 a0_6, .int .i64 a0_7, .int .i64 a0_8, .int .i64 a0_9, .int .i64 a0_10] 23 (0, 0)) (by (with_reducible repeat (first | refine blk_drewN ?_ _ | refine blk_drew ?_ | refine blk_alloc ?_ _)); exact BK297.out) hb); have n1_ := Aside0.mk (below_step (by repeat (first | (with_reducible first | exact HB.out | apply below_alloc | apply pw_below_drewN | apply below_drew1 | refine below_set ?_ GE297.out) | exact HB.out)) hb); clear BK297; clear HB; have BK297 := n0_; have HB := n1_; clear n0_ n1_; (try clear hb); (try clear hb2); (try clear hk); (try clear hi); (try clear A78)))
    go_ret
    exact ⟨by first | rfl | (simp [errW_none, errW_some] <;> rfl) | (simp [*, errW_none, errW_some] <;> rfl), by repeat (first | (with_reducible first | exact HB.out | apply below_alloc | apply pw_below_drewN | apply below_drew1 | refine below_set ?_ GE297.out) | exact HB.out)⟩


end Go.Proofs.Ytdiijjdhofaodaa.PL
