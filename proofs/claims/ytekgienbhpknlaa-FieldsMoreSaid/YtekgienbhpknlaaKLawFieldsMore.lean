/- What the functions that this claim reaches do and answer: printed words and walks, walks by hand and plain laws, packed together, each with its own remark; printed rows are by the kit's print program, turned by this session. Conditions: those that each theorem states. -/
import Derived.WalkKit
import Derived.ProofKit
import Derived.OpenShut
import Derived.ShutString
import Derived.ChangeOld
import Derived.Below
import Derived.SizedLaws
import Derived.Carry
import Derived.Test.YtekgienbhpknlaaKA1
import Derived.Test.YtekgienbhpknlaaKA2
import Derived.Test.YtekgienbhpknlaaKFs15
import Derived.Test.YtekgienbhpknlaaKFs14
import Derived.Test.YtekgienbhpknlaaKA5
import Derived.Test.YtekgienbhpknlaaRows
import Derived.Test.YtekgienbhpknlaaKFs6
section
namespace Go.Proofs.Ytekgienbhpknlaa.PL
open Go.RowKit Go.Proofs.YtekgienbhpknlaaW.PrintWords Go.Proofs.YtekgienbhpknlaaW.PrintLast Go.Proofs.YtekgienbhpknlaaW.PrintMore
attribute [local go_sem] max2_int min2_int max_two min_two max_three min_three max_four min_four   -- for this text's walks alone
set_option linter.unusedVariables false
set_option linter.unusedSimpArgs false

/-! ### gatelinelaw18_FieldsMore: function 12 -/
mutual
def gatelinelaw18_FieldsMore.j0 : Nat → List (S40) → List (S40) → Int → Bool → Option (Bool)
  | 0, _, _, _, _ => none
  | k + 1, x3, x5, x6, x27 => if x27 = true then ((gatelinelaw18_told.f).bind fun t420 => (some t420)) else (if x6 = 0 then (if (x3.length : Int) = (x5.length : Int) then (gatelinelaw18_FieldsMore.j1 k x3 x5 (decide ((x3.length : Int) < 1))) else (gatelinelaw18_FieldsMore.j1 k x3 x5 true)) else (gatelinelaw18_FieldsMore.j1 k x3 x5 true))
def gatelinelaw18_FieldsMore.j1 : Nat → List (S40) → List (S40) → Bool → Option (Bool)
  | 0, _, _, _ => none
  | k + 1, x3, x5, x42 => if x42 = true then (some false) else ((gatelinelaw18_told.f).bind fun t421 => (if t421 = true then (if 1 ≤ (x3.length : Int) then (if 1 ≤ (x5.length : Int) then ((gatelineref17_Same.f k (x3.drop 1) (x5.drop 1)).bind fun t432 => (some t432)) else (none)) else (none)) else (some false)))
end
def gatelinelaw18_FieldsMore.f (k : Nat) (a0_0 : Int) (a0_1 : Int) (a0_2 : Int) (a0_3 : Int) (a0_4 : Int) (a0_5 : Int) (a0_6 : Int) (a0_7 : Int) (a0_8 : Int) (a0_9 : Int) (a0_10 : Int) (a0_11 : Int) (a0_12 : Int) (a0_13 : Int) (a0_14 : Int) : Option (Bool) := (fields_Put.f a0_0 a0_1 a0_2 a0_3 a0_4 a0_5 a0_6 a0_7 a0_8 a0_9 a0_10 a0_11 a0_12 a0_13 a0_14).bind fun bt412 => ((fields_Put.f a0_0 a0_1 a0_2 a0_3 a0_4 a0_5 a0_6 a0_7 a0_8 a0_9 a0_10 a0_11 a0_12 a0_13 (wrap64 (a0_14 + 1))).bind fun bt416 => (if bt412.2 = 0 then (gatelinelaw18_FieldsMore.j0 k bt412.1 bt416.1 bt416.2 (decide ((wrap64 (a0_14 + 1)) > 3))) else (gatelinelaw18_FieldsMore.j0 k bt412.1 bt416.1 bt416.2 true)))
theorem gatelinelaw18_FieldsMore.mono_l : ∀ k, (∀ y0 y1 y2 y3, LeO (gatelinelaw18_FieldsMore.j0 k y0 y1 y2 y3) (gatelinelaw18_FieldsMore.j0 (k + 1) y0 y1 y2 y3)) ∧ (∀ y0 y1 y2, LeO (gatelinelaw18_FieldsMore.j1 k y0 y1 y2) (gatelinelaw18_FieldsMore.j1 (k + 1) y0 y1 y2))
  | 0 => ⟨fun _ _ _ _ r h => by simp [gatelinelaw18_FieldsMore.j0] at h, fun _ _ _ r h => by simp [gatelinelaw18_FieldsMore.j1] at h⟩
  | k + 1 => by
    obtain ⟨ih0, ih1⟩ := gatelinelaw18_FieldsMore.mono_l k
    refine ⟨?_, ?_⟩
    · intro y0 y1 y2 y3
      unfold gatelinelaw18_FieldsMore.j0
      repeat' first
      | (with_reducible exact ih0 _ _ _ _)
      | (with_reducible exact ih1 _ _ _)
      | (with_reducible exact gatelineref17_Same.mono _ _ _)
      | (with_reducible exact LeO.refl _)
      | (with_reducible exact LeO.none _)
      | (with_reducible refine LeO.ite ?_ ?_)
      | (with_reducible refine LeO.bind ?_ (fun _ => ?_))
      | exact ih0 _ _ _ _
      | exact ih1 _ _ _
      | exact gatelineref17_Same.mono _ _ _
      | exact LeO.none _
      | refine LeO.ite ?_ ?_
      | refine LeO.bind ?_ (fun _ => ?_)
    · intro y0 y1 y2
      unfold gatelinelaw18_FieldsMore.j1
      repeat' first
      | (with_reducible exact ih0 _ _ _ _)
      | (with_reducible exact ih1 _ _ _)
      | (with_reducible exact gatelineref17_Same.mono _ _ _)
      | (with_reducible exact LeO.refl _)
      | (with_reducible exact LeO.none _)
      | (with_reducible refine LeO.ite ?_ ?_)
      | (with_reducible refine LeO.bind ?_ (fun _ => ?_))
      | exact ih0 _ _ _ _
      | exact ih1 _ _ _
      | exact gatelineref17_Same.mono _ _ _
      | exact LeO.none _
      | refine LeO.ite ?_ ?_
      | refine LeO.bind ?_ (fun _ => ?_)
theorem gatelinelaw18_FieldsMore.mono : ∀ a0 a1 a2 a3 a4 a5 a6 a7 a8 a9 a10 a11 a12 a13 a14 k, LeO (gatelinelaw18_FieldsMore.f k a0 a1 a2 a3 a4 a5 a6 a7 a8 a9 a10 a11 a12 a13 a14) (gatelinelaw18_FieldsMore.f (k + 1) a0 a1 a2 a3 a4 a5 a6 a7 a8 a9 a10 a11 a12 a13 a14) := by
  intro a0 a1 a2 a3 a4 a5 a6 a7 a8 a9 a10 a11 a12 a13 a14 k
  obtain ⟨ih0, ih1⟩ := gatelinelaw18_FieldsMore.mono_l k
  unfold gatelinelaw18_FieldsMore.f
  repeat' first
      | (with_reducible exact ih0 _ _ _ _)
      | (with_reducible exact ih1 _ _ _)
      | (with_reducible exact gatelineref17_Same.mono _ _ _)
      | (with_reducible exact LeO.refl _)
      | (with_reducible exact LeO.none _)
      | (with_reducible refine LeO.ite ?_ ?_)
      | (with_reducible refine LeO.bind ?_ (fun _ => ?_))
      | exact ih0 _ _ _ _
      | exact ih1 _ _ _
      | exact gatelineref17_Same.mono _ _ _
      | exact LeO.none _
      | refine LeO.ite ?_ ?_
      | refine LeO.bind ?_ (fun _ => ?_)
def gatelinelaw18_FieldsMore.T8 : Bool × List (List Nat × List Nat) := (true, [([], []), ([0, 0], [0]), ([1], [1]), ([2, 1], [1, 2]), ([1], [1]), ([4, 1], [1, 4]), ([3, 5, 1, 1], [1, 3, 5]), ([1, 6], [1, 6]), ([7, 6, 0, 1, 2, 3, 4, 5, 6, 7], [7])])
def gatelinelaw18_FieldsMore.B8 : List Nat := [0, 1, 3, 7, 3, 19, 63, 127, 255]
theorem gatelinelaw18_FieldsMore.tab8 : rtab .any (opsOf Try.f12 8) = gatelinelaw18_FieldsMore.T8 := by kernel_rfl
theorem gatelinelaw18_FieldsMore.bits8 : waitsOk gatelinelaw18_FieldsMore.T8.2 gatelinelaw18_FieldsMore.B8 = true := by kernel_rfl
set_option maxHeartbeats 8000000 in
set_option maxRecDepth 100000 in
theorem gatelinelaw18_FieldsMore.calls (k : Nat) (a0_0 : Int) (a0_1 : Int) (a0_2 : Int) (a0_3 : Int) (a0_4 : Int) (a0_5 : Int) (a0_6 : Int) (a0_7 : Int) (a0_8 : Int) (a0_9 : Int) (a0_10 : Int) (a0_11 : Int) (a0_12 : Int) (a0_13 : Int) (a0_14 : Int) (r : Bool) (w : World) (h : gatelinelaw18_FieldsMore.f k a0_0 a0_1 a0_2 a0_3 a0_4 a0_5 a0_6 a0_7 a0_8 a0_9 a0_10 a0_11 a0_12 a0_13 a0_14 = some r) :
    Calls Try.prog 12 #[.agg #[.int .i64 a0_0, .int .i64 a0_1, .int .i64 a0_2, .int .i64 a0_3, .int .i64 a0_4, .int .i64 a0_5, .int .i64 a0_6, .int .i64 a0_7, .int .i64 a0_8, .int .i64 a0_9, .int .i64 a0_10, .int .i64 a0_11, .int .i64 a0_12, .int .i64 a0_13, .int .i64 a0_14]] w fun e w' => e = .returned (.bool r) ∧ Below w.heap.size w w' := by
  have hu46 := Try.underlying46
  have HB := Aside0.mk (Below.refl w.heap.size w)
  have H : ((fields_Put.f a0_0 a0_1 a0_2 a0_3 a0_4 a0_5 a0_6 a0_7 a0_8 a0_9 a0_10 a0_11 a0_12 a0_13 a0_14).bind fun bt412 => ((fields_Put.f a0_0 a0_1 a0_2 a0_3 a0_4 a0_5 a0_6 a0_7 a0_8 a0_9 a0_10 a0_11 a0_12 a0_13 (wrap64 (a0_14 + 1))).bind fun bt416 => (if bt412.2 = 0 then (gatelinelaw18_FieldsMore.j0 k bt412.1 bt416.1 bt416.2 (decide ((wrap64 (a0_14 + 1)) > 3))) else (gatelinelaw18_FieldsMore.j0 k bt412.1 bt416.1 bt416.2 true)))) = some r := h
  clear h
  replace H := Option.bind_eq_some_iff.mp H
  obtain ⟨⟨t412, t415⟩, A20, H⟩ := H
  replace H : ((fields_Put.f a0_0 a0_1 a0_2 a0_3 a0_4 a0_5 a0_6 a0_7 a0_8 a0_9 a0_10 a0_11 a0_12 a0_13 (wrap64 (a0_14 + 1))).bind fun bt416 => (if t415 = 0 then (gatelinelaw18_FieldsMore.j0 k t412 bt416.1 bt416.2 (decide ((wrap64 (a0_14 + 1)) > 3))) else (gatelinelaw18_FieldsMore.j0 k t412 bt416.1 bt416.2 true))) = some r := H
  have A2 := Aside0.mk A20
  clear A20
  replace H := Option.bind_eq_some_iff.mp H
  obtain ⟨⟨t416, t419⟩, A30, H⟩ := H
  replace H : (if t415 = 0 then (gatelinelaw18_FieldsMore.j0 k t412 t416 t419 (decide ((wrap64 (a0_14 + 1)) > 3))) else (gatelinelaw18_FieldsMore.j0 k t412 t416 t419 true)) = some r := H
  have A3 := Aside0.mk A30
  clear A30
  have HC4 := Aside0.mk H
  clear H
  go_enter Try.func12, Try.ntmps12
  go_upto_region 4 with (first | ((with_reducible refine gate_dst (N := 1) rfl ?_); (try (refine gate_guard (by rfl) ?_; dsimp only)); refine box_event ?hg (N := 1) ?hd (cs := #[.int .i64 a0_0, .int .i64 a0_1, .int .i64 a0_2, .int .i64 a0_3, .int .i64 a0_4, .int .i64 a0_5, .int .i64 a0_6, .int .i64 a0_7, .int .i64 a0_8, .int .i64 a0_9, .int .i64 a0_10, .int .i64 a0_11, .int .i64 a0_12, .int .i64 a0_13, .int .i64 a0_14]) (t := 46) ?hr ?_; (case hd => rfl); (case hg => rfl); (case hr => first | (go_simp; done) | (go_simp; rfl)); intro gb411 hg w5 hbox hb; have n0_ := Aside0.mk (below_step (by repeat (first | (with_reducible first | exact HB.out | apply below_alloc | apply pw_below_drewN | apply below_drew1) | exact HB.out)) hb); have n1_ := Aside0.mk (hbox); have n2_ := Aside0.mk ((by rw [hg]; exact (below_size (by repeat (first | (with_reducible first | exact HB.out | apply below_alloc | apply pw_below_drewN | apply below_drew1) | exact HB.out))) : w.heap.size ≤ gb411)); have n3_ := Aside0.mk ((by rw [hg]; exact (below_size (by repeat (first | (with_reducible first | exact HB.out | apply below_alloc | apply pw_below_drewN | apply below_drew1) | exact HB.out))) : w.heap.size ≤ gb411)); clear HB; have HB := n0_; have BK411 := n1_; have GW411 := n2_; have GE411 := n3_; clear n0_ n1_ n2_ n3_; clear hb hbox hg; have hcz6_0 : w5.cell? ⟨gb411, 0, none⟩ = some (.int .i64 a0_0) := (blk_cell BK411.out 0).trans rfl; have hcz6_1 : w5.cell? ⟨gb411, 1, none⟩ = some (.int .i64 a0_1) := (blk_cell BK411.out 1).trans rfl; have hcz6_2 : w5.cell? ⟨gb411, 2, none⟩ = some (.int .i64 a0_2) := (blk_cell BK411.out 2).trans rfl; have hcz6_3 : w5.cell? ⟨gb411, 3, none⟩ = some (.int .i64 a0_3) := (blk_cell BK411.out 3).trans rfl; have hcz6_4 : w5.cell? ⟨gb411, 4, none⟩ = some (.int .i64 a0_4) := (blk_cell BK411.out 4).trans rfl; have hcz6_5 : w5.cell? ⟨gb411, 5, none⟩ = some (.int .i64 a0_5) := (blk_cell BK411.out 5).trans rfl; have hcz6_6 : w5.cell? ⟨gb411, 6, none⟩ = some (.int .i64 a0_6) := (blk_cell BK411.out 6).trans rfl; have hcz6_7 : w5.cell? ⟨gb411, 7, none⟩ = some (.int .i64 a0_7) := (blk_cell BK411.out 7).trans rfl; have hcz6_8 : w5.cell? ⟨gb411, 8, none⟩ = some (.int .i64 a0_8) := (blk_cell BK411.out 8).trans rfl; have hcz6_9 : w5.cell? ⟨gb411, 9, none⟩ = some (.int .i64 a0_9) := (blk_cell BK411.out 9).trans rfl; have hcz6_10 : w5.cell? ⟨gb411, 10, none⟩ = some (.int .i64 a0_10) := (blk_cell BK411.out 10).trans rfl; have hcz6_11 : w5.cell? ⟨gb411, 11, none⟩ = some (.int .i64 a0_11) := (blk_cell BK411.out 11).trans rfl; have hcz6_12 : w5.cell? ⟨gb411, 12, none⟩ = some (.int .i64 a0_12) := (blk_cell BK411.out 12).trans rfl; have hcz6_13 : w5.cell? ⟨gb411, 13, none⟩ = some (.int .i64 a0_13) := (blk_cell BK411.out 13).trans rfl; have hcz6_14 : w5.cell? ⟨gb411, 14, none⟩ = some (.int .i64 a0_14) := (blk_cell BK411.out 14).trans rfl; have hfz6_0 := blk_frozen BK411.out 0; have hfz6_1 := blk_frozen BK411.out 1; have hfz6_2 := blk_frozen BK411.out 2; have hfz6_3 := blk_frozen BK411.out 3; have hfz6_4 := blk_frozen BK411.out 4; have hfz6_5 := blk_frozen BK411.out 5; have hfz6_6 := blk_frozen BK411.out 6; have hfz6_7 := blk_frozen BK411.out 7; have hfz6_8 := blk_frozen BK411.out 8; have hfz6_9 := blk_frozen BK411.out 9; have hfz6_10 := blk_frozen BK411.out 10; have hfz6_11 := blk_frozen BK411.out 11; have hfz6_12 := blk_frozen BK411.out 12; have hfz6_13 := blk_frozen BK411.out 13; have hfz6_14 := blk_frozen BK411.out 14) | ((with_reducible refine gate_callee (f := 28) rfl ?_); refine goesL_ (some 9) rfl rfl Try.func28 (by kernel_rfl) rfl #[.agg #[.int .i64 a0_0, .int .i64 a0_1, .int .i64 a0_2, .int .i64 a0_3, .int .i64 a0_4, .int .i64 a0_5, .int .i64 a0_6, .int .i64 a0_7, .int .i64 a0_8, .int .i64 a0_9, .int .i64 a0_10, .int .i64 a0_11, .int .i64 a0_12, .int .i64 a0_13, .int .i64 a0_14]] rfl (by (try simp only [List.map_toArray, List.map_cons, List.map_nil]); first | done | rfl | (simp only [List.length_drop, List.length_take]; rfl)) ?_; (with_reducible refine (fields_Put.calls a0_0 a0_1 a0_2 a0_3 a0_4 a0_5 a0_6 a0_7 a0_8 a0_9 a0_10 a0_11 a0_12 a0_13 a0_14 t412 t415 _ A2.out).mono ?_); rintro e w7 ⟨v413, rfl, ho0, hb⟩; refine ⟨_, rfl, ?_⟩; have n0_ := Aside0.mk (Kd.N_lower (Kd.N_mono (ok' := fun k_ => k_ ≠ gb411) ho0 (fun k_ hk_ => (Kd.freshB (g := gb411) (o := .cells #[.int .i64 a0_0, .int .i64 a0_1, .int .i64 a0_2, .int .i64 a0_3, .int .i64 a0_4, .int .i64 a0_5, .int .i64 a0_6, .int .i64 a0_7, .int .i64 a0_8, .int .i64 a0_9, .int .i64 a0_10, .int .i64 a0_11, .int .i64 a0_12, .int .i64 a0_13, .int .i64 a0_14] 46 (0, 0)) (by (with_reducible repeat (first | refine blk_drewN ?_ _ | refine blk_drew ?_ | refine blk_alloc ?_ _)); exact BK411.out) k_ hk_))) (below_size (by repeat (first | (with_reducible first | exact HB.out | apply below_alloc | apply pw_below_drewN | apply below_drew1 | refine below_set ?_ GE411.out) | exact HB.out)))); have n1_ := Aside0.mk (blk_below (g := gb411) (o := .cells #[.int .i64 a0_0, .int .i64 a0_1, .int .i64 a0_2, .int .i64 a0_3, .int .i64 a0_4, .int .i64 a0_5, .int .i64 a0_6, .int .i64 a0_7, .int .i64 a0_8, .int .i64 a0_9, .int .i64 a0_10, .int .i64 a0_11, .int .i64 a0_12, .int .i64 a0_13, .int .i64 a0_14] 46 (0, 0)) (by (with_reducible repeat (first | refine blk_drewN ?_ _ | refine blk_drew ?_ | refine blk_alloc ?_ _)); exact BK411.out) hb); have n2_ := Aside0.mk (below_step (by repeat (first | (with_reducible first | exact HB.out | apply below_alloc | apply pw_below_drewN | apply below_drew1 | refine below_set ?_ GE411.out) | exact HB.out)) hb); clear BK411; clear HB; have HO414 := n0_; have BK411 := n1_; have HB := n2_; clear n0_ n1_ n2_; (try clear hb); (try clear hb2); (try clear hk); (try clear hi); (try clear ho0); (try clear A2); have hcz8_0 : w7.cell? ⟨gb411, 0, none⟩ = some (.int .i64 a0_0) := (blk_cell BK411.out 0).trans rfl; have hcz8_1 : w7.cell? ⟨gb411, 1, none⟩ = some (.int .i64 a0_1) := (blk_cell BK411.out 1).trans rfl; have hcz8_2 : w7.cell? ⟨gb411, 2, none⟩ = some (.int .i64 a0_2) := (blk_cell BK411.out 2).trans rfl; have hcz8_3 : w7.cell? ⟨gb411, 3, none⟩ = some (.int .i64 a0_3) := (blk_cell BK411.out 3).trans rfl; have hcz8_4 : w7.cell? ⟨gb411, 4, none⟩ = some (.int .i64 a0_4) := (blk_cell BK411.out 4).trans rfl; have hcz8_5 : w7.cell? ⟨gb411, 5, none⟩ = some (.int .i64 a0_5) := (blk_cell BK411.out 5).trans rfl; have hcz8_6 : w7.cell? ⟨gb411, 6, none⟩ = some (.int .i64 a0_6) := (blk_cell BK411.out 6).trans rfl; have hcz8_7 : w7.cell? ⟨gb411, 7, none⟩ = some (.int .i64 a0_7) := (blk_cell BK411.out 7).trans rfl; have hcz8_8 : w7.cell? ⟨gb411, 8, none⟩ = some (.int .i64 a0_8) := (blk_cell BK411.out 8).trans rfl; have hcz8_9 : w7.cell? ⟨gb411, 9, none⟩ = some (.int .i64 a0_9) := (blk_cell BK411.out 9).trans rfl; have hcz8_10 : w7.cell? ⟨gb411, 10, none⟩ = some (.int .i64 a0_10) := (blk_cell BK411.out 10).trans rfl; have hcz8_11 : w7.cell? ⟨gb411, 11, none⟩ = some (.int .i64 a0_11) := (blk_cell BK411.out 11).trans rfl; have hcz8_12 : w7.cell? ⟨gb411, 12, none⟩ = some (.int .i64 a0_12) := (blk_cell BK411.out 12).trans rfl; have hcz8_13 : w7.cell? ⟨gb411, 13, none⟩ = some (.int .i64 a0_13) := (blk_cell BK411.out 13).trans rfl; have hcz8_14 : w7.cell? ⟨gb411, 14, none⟩ = some (.int .i64 a0_14) := (blk_cell BK411.out 14).trans rfl; have hfz8_0 := blk_frozen BK411.out 0; have hfz8_1 := blk_frozen BK411.out 1; have hfz8_2 := blk_frozen BK411.out 2; have hfz8_3 := blk_frozen BK411.out 3; have hfz8_4 := blk_frozen BK411.out 4; have hfz8_5 := blk_frozen BK411.out 5; have hfz8_6 := blk_frozen BK411.out 6; have hfz8_7 := blk_frozen BK411.out 7; have hfz8_8 := blk_frozen BK411.out 8; have hfz8_9 := blk_frozen BK411.out 9; have hfz8_10 := blk_frozen BK411.out 10; have hfz8_11 := blk_frozen BK411.out 11; have hfz8_12 := blk_frozen BK411.out 12; have hfz8_13 := blk_frozen BK411.out 13; have hfz8_14 := blk_frozen BK411.out 14) | ((with_reducible refine gate_callee (f := 28) rfl ?_); refine goesL_ (some 18) rfl rfl Try.func28 (by kernel_rfl) rfl #[.agg #[.int .i64 a0_0, .int .i64 a0_1, .int .i64 a0_2, .int .i64 a0_3, .int .i64 a0_4, .int .i64 a0_5, .int .i64 a0_6, .int .i64 a0_7, .int .i64 a0_8, .int .i64 a0_9, .int .i64 a0_10, .int .i64 a0_11, .int .i64 a0_12, .int .i64 a0_13, .int .i64 (wrap64 (a0_14 + 1))]] rfl (by (try simp only [List.map_toArray, List.map_cons, List.map_nil]); first | done | rfl | (simp only [List.length_drop, List.length_take]; rfl)) ?_; (with_reducible refine (fields_Put.calls a0_0 a0_1 a0_2 a0_3 a0_4 a0_5 a0_6 a0_7 a0_8 a0_9 a0_10 a0_11 a0_12 a0_13 (wrap64 (a0_14 + 1)) t416 t419 _ A3.out).mono ?_); rintro e w9 ⟨v417, rfl, ho0, hb⟩; refine ⟨_, rfl, ?_⟩; have n0_ := Aside0.mk (Kd.N_elder' (by (with_reducible repeat (first | apply Kd.N_alloc | apply Kd.N_drewN | apply Kd.N_drew)); exact (Kd.N_mono (Kd.N_far (p := ⟨gb411, 14, none⟩) (Kd.N_mono HO414.out (fun k_ hk => (⟨hk, hk⟩ : _ ∧ k_ ≠ gb411))) (fun _ hk => hk.2) (.int .i64 (wrap64 (a0_14 + 1)))) (fun _ h_ => h_.1))) (Kd.N_base ho0) hb); have n1_ := Aside0.mk (Kd.N_lower (Kd.N_mono (ok' := fun k_ => some k_ ≠ (v413 : Value).ownBlock ∧ k_ ≠ gb411) ho0 (fun k_ hk_ => ⟨(Kd.fresh' (Kd.N_lt (by (with_reducible repeat (first | apply Kd.N_alloc | apply Kd.N_drewN | apply Kd.N_drew)); exact (Kd.N_mono (Kd.N_far (p := ⟨gb411, 14, none⟩) (Kd.N_mono HO414.out (fun k_ hk => (⟨hk, hk⟩ : _ ∧ k_ ≠ gb411))) (fun _ hk => hk.2) (.int .i64 (wrap64 (a0_14 + 1)))) (fun _ h_ => h_.1)))) k_ hk_), (Kd.freshB (g := gb411) (o := .cells #[.int .i64 a0_0, .int .i64 a0_1, .int .i64 a0_2, .int .i64 a0_3, .int .i64 a0_4, .int .i64 a0_5, .int .i64 a0_6, .int .i64 a0_7, .int .i64 a0_8, .int .i64 a0_9, .int .i64 a0_10, .int .i64 a0_11, .int .i64 a0_12, .int .i64 a0_13, .int .i64 (wrap64 (a0_14 + 1))] 46 (0, 0)) (by (with_reducible repeat (first | refine blk_drewN ?_ _ | refine blk_drew ?_ | refine blk_alloc ?_ _)); refine blk_put (cs := #[.int .i64 a0_0, .int .i64 a0_1, .int .i64 a0_2, .int .i64 a0_3, .int .i64 a0_4, .int .i64 a0_5, .int .i64 a0_6, .int .i64 a0_7, .int .i64 a0_8, .int .i64 a0_9, .int .i64 a0_10, .int .i64 a0_11, .int .i64 a0_12, .int .i64 a0_13, .int .i64 a0_14]) ?_ 14 _ rfl; (with_reducible repeat (first | refine blk_drewN ?_ _ | refine blk_drew ?_ | refine blk_alloc ?_ _)); exact BK411.out) k_ hk_)⟩)) (below_size (by repeat (first | (with_reducible first | exact HB.out | apply below_alloc | apply pw_below_drewN | apply below_drew1 | refine below_set ?_ GE411.out) | exact HB.out)))); have n2_ := Aside0.mk (blk_below (g := gb411) (o := .cells #[.int .i64 a0_0, .int .i64 a0_1, .int .i64 a0_2, .int .i64 a0_3, .int .i64 a0_4, .int .i64 a0_5, .int .i64 a0_6, .int .i64 a0_7, .int .i64 a0_8, .int .i64 a0_9, .int .i64 a0_10, .int .i64 a0_11, .int .i64 a0_12, .int .i64 a0_13, .int .i64 (wrap64 (a0_14 + 1))] 46 (0, 0)) (by (with_reducible repeat (first | refine blk_drewN ?_ _ | refine blk_drew ?_ | refine blk_alloc ?_ _)); refine blk_put (cs := #[.int .i64 a0_0, .int .i64 a0_1, .int .i64 a0_2, .int .i64 a0_3, .int .i64 a0_4, .int .i64 a0_5, .int .i64 a0_6, .int .i64 a0_7, .int .i64 a0_8, .int .i64 a0_9, .int .i64 a0_10, .int .i64 a0_11, .int .i64 a0_12, .int .i64 a0_13, .int .i64 a0_14]) ?_ 14 _ rfl; (with_reducible repeat (first | refine blk_drewN ?_ _ | refine blk_drew ?_ | refine blk_alloc ?_ _)); exact BK411.out) hb); have n3_ := Aside0.mk (below_step (by repeat (first | (with_reducible first | exact HB.out | apply below_alloc | apply pw_below_drewN | apply below_drew1 | refine below_set ?_ GE411.out) | exact HB.out)) hb); clear HO414; clear BK411; clear HB; have HO414 := n0_; have HO418 := n1_; have BK411 := n2_; have HB := n3_; clear n0_ n1_ n2_ n3_; (try clear hb); (try clear hb2); (try clear hk); (try clear hi); (try clear ho0); (try clear A3)))
  (try simp only [Act.put, List.setIfInBounds_toArray, List.set_cons_zero, List.set_cons_succ])
  go_cut [27] (fun v27 wc => ∃ (kq : Nat) (x27_3 : Bool), v27 = .bool x27_3 ∧ Aside0 (gatelinelaw18_FieldsMore.j0 kq t412 t416 t419 x27_3 = some r) ∧ Aside0 (kq ≤ k) ∧ Aside0 (Kd.N k40 40 wc w.heap.size (fun k_ => some k_ ≠ (v417 : Value).ownBlock ∧ k_ ≠ gb411) v413 t412) ∧ Aside0 (Kd.N k40 40 wc w.heap.size (fun k_ => some k_ ≠ (v413 : Value).ownBlock ∧ k_ ≠ gb411) v417 t416) ∧ Aside0 (wc.heap[gb411]? = some (.cells #[.int .i64 a0_0, .int .i64 a0_1, .int .i64 a0_2, .int .i64 a0_3, .int .i64 a0_4, .int .i64 a0_5, .int .i64 a0_6, .int .i64 a0_7, .int .i64 a0_8, .int .i64 a0_9, .int .i64 a0_10, .int .i64 a0_11, .int .i64 a0_12, .int .i64 a0_13, .int .i64 (wrap64 (a0_14 + 1))] 46 (0, 0))) ∧ Aside0 (Below w.heap.size w wc))
  case first =>
    have H := HC4.out
    clear HC4
    by_cases c10 : t415 = 0
    · rw [if_pos c10] at H
      have c10b0 : (t415 == 0) = true := beq_iff_eq.mpr c10
      have c10b1 : (t415 != 0) = false := bne_eq_false_iff_eq.mpr c10
      clear c10
      (first | rw [c10b0] | (simp only [i64_w, i32_w]; rw [c10b0]) | skip)
      have H' := Aside0.mk H
      clear H
      have hcz11_0 : w9.cell? ⟨gb411, 0, none⟩ = some (.int .i64 a0_0) := (blk_cell BK411.out 0).trans rfl
      have hcz11_1 : w9.cell? ⟨gb411, 1, none⟩ = some (.int .i64 a0_1) := (blk_cell BK411.out 1).trans rfl
      have hcz11_2 : w9.cell? ⟨gb411, 2, none⟩ = some (.int .i64 a0_2) := (blk_cell BK411.out 2).trans rfl
      have hcz11_3 : w9.cell? ⟨gb411, 3, none⟩ = some (.int .i64 a0_3) := (blk_cell BK411.out 3).trans rfl
      have hcz11_4 : w9.cell? ⟨gb411, 4, none⟩ = some (.int .i64 a0_4) := (blk_cell BK411.out 4).trans rfl
      have hcz11_5 : w9.cell? ⟨gb411, 5, none⟩ = some (.int .i64 a0_5) := (blk_cell BK411.out 5).trans rfl
      have hcz11_6 : w9.cell? ⟨gb411, 6, none⟩ = some (.int .i64 a0_6) := (blk_cell BK411.out 6).trans rfl
      have hcz11_7 : w9.cell? ⟨gb411, 7, none⟩ = some (.int .i64 a0_7) := (blk_cell BK411.out 7).trans rfl
      have hcz11_8 : w9.cell? ⟨gb411, 8, none⟩ = some (.int .i64 a0_8) := (blk_cell BK411.out 8).trans rfl
      have hcz11_9 : w9.cell? ⟨gb411, 9, none⟩ = some (.int .i64 a0_9) := (blk_cell BK411.out 9).trans rfl
      have hcz11_10 : w9.cell? ⟨gb411, 10, none⟩ = some (.int .i64 a0_10) := (blk_cell BK411.out 10).trans rfl
      have hcz11_11 : w9.cell? ⟨gb411, 11, none⟩ = some (.int .i64 a0_11) := (blk_cell BK411.out 11).trans rfl
      have hcz11_12 : w9.cell? ⟨gb411, 12, none⟩ = some (.int .i64 a0_12) := (blk_cell BK411.out 12).trans rfl
      have hcz11_13 : w9.cell? ⟨gb411, 13, none⟩ = some (.int .i64 a0_13) := (blk_cell BK411.out 13).trans rfl
      have hcz11_14 : w9.cell? ⟨gb411, 14, none⟩ = some (.int .i64 (wrap64 (a0_14 + 1))) := (blk_cell BK411.out 14).trans rfl
      have hfz11_0 := blk_frozen BK411.out 0
      have hfz11_1 := blk_frozen BK411.out 1
      have hfz11_2 := blk_frozen BK411.out 2
      have hfz11_3 := blk_frozen BK411.out 3
      have hfz11_4 := blk_frozen BK411.out 4
      have hfz11_5 := blk_frozen BK411.out 5
      have hfz11_6 := blk_frozen BK411.out 6
      have hfz11_7 := blk_frozen BK411.out 7
      have hfz11_8 := blk_frozen BK411.out 8
      have hfz11_9 := blk_frozen BK411.out 9
      have hfz11_10 := blk_frozen BK411.out 10
      have hfz11_11 := blk_frozen BK411.out 11
      have hfz11_12 := blk_frozen BK411.out 12
      have hfz11_13 := blk_frozen BK411.out 13
      have hfz11_14 := blk_frozen BK411.out 14
      go_wp2
      go_meet
      case rel => exact ⟨_, (decide ((wrap64 (a0_14 + 1)) > 3)), (by first | rfl | (simp; done) | (simp [*]; done)), H', ⟨by first | omega | exact Nat.le_refl _⟩, ⟨by (with_reducible repeat (first | apply Kd.N_alloc | apply Kd.N_drewN | apply Kd.N_drew)); exact Kd.N_mono HO414.out (fun _ hk => ⟨hk.2, hk.1⟩)⟩, ⟨by (with_reducible repeat (first | apply Kd.N_alloc | apply Kd.N_drewN | apply Kd.N_drew)); exact HO418.out⟩, ⟨by (with_reducible repeat (first | refine blk_drewN ?_ _ | refine blk_drew ?_ | refine blk_alloc ?_ _)); exact BK411.out⟩, ⟨by repeat (first | (with_reducible first | exact HB.out | apply below_alloc | apply pw_below_drewN | apply below_drew1 | refine below_set ?_ GE411.out) | exact HB.out)⟩⟩
    · rw [if_neg c10] at H
      have c10b0 : (t415 == 0) = false := beq_eq_false_iff_ne.mpr c10
      have c10b1 : (t415 != 0) = true := bne_iff_ne.mpr c10
      (first | rw [c10b0] | (simp only [i64_w, i32_w]; rw [c10b0]) | skip)
      have H' := Aside0.mk H
      clear H
      go_wp2
      go_meet
      case rel => exact ⟨_, (true), (by first | rfl | (simp; done) | (simp [*]; done)), H', ⟨by first | omega | exact Nat.le_refl _⟩, ⟨by (with_reducible repeat (first | apply Kd.N_alloc | apply Kd.N_drewN | apply Kd.N_drew)); exact Kd.N_mono HO414.out (fun _ hk => ⟨hk.2, hk.1⟩)⟩, ⟨by (with_reducible repeat (first | apply Kd.N_alloc | apply Kd.N_drewN | apply Kd.N_drew)); exact HO418.out⟩, ⟨by (with_reducible repeat (first | refine blk_drewN ?_ _ | refine blk_drew ?_ | refine blk_alloc ?_ _)); exact BK411.out⟩, ⟨by repeat (first | (with_reducible first | exact HB.out | apply below_alloc | apply pw_below_drewN | apply below_drew1 | refine below_set ?_ GE411.out) | exact HB.out)⟩⟩
  case rest =>
    clear HC4
    try clear c1
    try clear c2
    try clear p2
    try clear p6
    try clear c10
    try clear c10b0
    try clear c10b1
    try clear hcz11_0
    try clear hcz11_1
    try clear hcz11_10
    try clear hcz11_11
    try clear hcz11_12
    try clear hcz11_13
    try clear hcz11_14
    try clear hcz11_2
    try clear hcz11_3
    try clear hcz11_4
    try clear hcz11_5
    try clear hcz11_6
    try clear hcz11_7
    try clear hcz11_8
    try clear hcz11_9
    try clear hcz6_0
    try clear hcz6_1
    try clear hcz6_10
    try clear hcz6_11
    try clear hcz6_12
    try clear hcz6_13
    try clear hcz6_14
    try clear hcz6_2
    try clear hcz6_3
    try clear hcz6_4
    try clear hcz6_5
    try clear hcz6_6
    try clear hcz6_7
    try clear hcz6_8
    try clear hcz6_9
    try clear hcz8_0
    try clear hcz8_1
    try clear hcz8_10
    try clear hcz8_11
    try clear hcz8_12
    try clear hcz8_13
    try clear hcz8_14
    try clear hcz8_2
    try clear hcz8_3
    try clear hcz8_4
    try clear hcz8_5
    try clear hcz8_6
    try clear hcz8_7
    try clear hcz8_8
    try clear hcz8_9
    try clear hfz11_0
    try clear hfz11_1
    try clear hfz11_10
    try clear hfz11_11
    try clear hfz11_12
    try clear hfz11_13
    try clear hfz11_14
    try clear hfz11_2
    try clear hfz11_3
    try clear hfz11_4
    try clear hfz11_5
    try clear hfz11_6
    try clear hfz11_7
    try clear hfz11_8
    try clear hfz11_9
    try clear hfz6_0
    try clear hfz6_1
    try clear hfz6_10
    try clear hfz6_11
    try clear hfz6_12
    try clear hfz6_13
    try clear hfz6_14
    try clear hfz6_2
    try clear hfz6_3
    try clear hfz6_4
    try clear hfz6_5
    try clear hfz6_6
    try clear hfz6_7
    try clear hfz6_8
    try clear hfz6_9
    try clear hfz8_0
    try clear hfz8_1
    try clear hfz8_10
    try clear hfz8_11
    try clear hfz8_12
    try clear hfz8_13
    try clear hfz8_14
    try clear hfz8_2
    try clear hfz8_3
    try clear hfz8_4
    try clear hfz8_5
    try clear hfz8_6
    try clear hfz8_7
    try clear hfz8_8
    try clear hfz8_9
    obtain ⟨kq, x27_3, rfl, HA, HJ3, HO_3, HO_5, BK411, HB⟩ := hcut
    cases kq with
    | zero => exact absurd HA.out (by simp [gatelinelaw18_FieldsMore.j0])
    | succ kj3 =>
      have H := HA.out
      clear HA
      simp only [gatelinelaw18_FieldsMore.j0] at H
      by_cases c12 : x27_3 = true
      · subst c12
        have H1 : ((gatelinelaw18_told.f).bind fun t420 => (some t420)) = some r := by rw [if_pos rfl] at H; exact H
        clear H
        have H := H1
        clear H1
        replace H := Option.bind_eq_some_iff.mp H
        obtain ⟨t420, A130, H⟩ := H
        replace H : (some t420) = some r := H
        have A13 := Aside0.mk A130
        clear A130
        obtain rfl := Option.some.inj H
        go_wp2_with (first | ((with_reducible refine gate_callee (f := 32) rfl ?_); refine goesL_ (some 28) rfl rfl Try.func32 (by kernel_rfl) rfl #[] rfl (by (try simp only [List.map_toArray, List.map_cons, List.map_nil]); first | done | rfl | (simp only [List.length_drop, List.length_take]; rfl)) ?_; (with_reducible refine (gatelinelaw18_told.calls  t420 _ A13.out).mono ?_); rintro e w14 ⟨rfl, hb⟩; refine ⟨_, rfl, ?_⟩; have n0_ := Aside0.mk (Kd.N_below (by (with_reducible repeat (first | apply Kd.N_alloc | apply Kd.N_drewN | apply Kd.N_drew)); exact HO_3.out) hb); have n1_ := Aside0.mk (Kd.N_below (by (with_reducible repeat (first | apply Kd.N_alloc | apply Kd.N_drewN | apply Kd.N_drew)); exact HO_5.out) hb); have n2_ := Aside0.mk (blk_below (g := gb411) (o := .cells #[.int .i64 a0_0, .int .i64 a0_1, .int .i64 a0_2, .int .i64 a0_3, .int .i64 a0_4, .int .i64 a0_5, .int .i64 a0_6, .int .i64 a0_7, .int .i64 a0_8, .int .i64 a0_9, .int .i64 a0_10, .int .i64 a0_11, .int .i64 a0_12, .int .i64 a0_13, .int .i64 (wrap64 (a0_14 + 1))] 46 (0, 0)) (by (with_reducible repeat (first | refine blk_drewN ?_ _ | refine blk_drew ?_ | refine blk_alloc ?_ _)); exact BK411.out) hb); have n3_ := Aside0.mk (below_step (by repeat (first | (with_reducible first | exact HB.out | apply below_alloc | apply pw_below_drewN | apply below_drew1 | refine below_set ?_ GE411.out) | exact HB.out)) hb); clear HO_3; clear HO_5; clear BK411; clear HB; have HO_3 := n0_; have HO_5 := n1_; have BK411 := n2_; have HB := n3_; clear n0_ n1_ n2_ n3_; (try clear hb); (try clear hb2); (try clear hk); (try clear hi); (try clear A13)))
        go_ret
        exact ⟨by first | rfl | (simp [errW_none, errW_some] <;> rfl) | (simp [*, errW_none, errW_some] <;> rfl), by repeat (first | (with_reducible first | exact HB.out | apply below_alloc | apply pw_below_drewN | apply below_drew1 | refine below_set ?_ GE411.out) | exact HB.out)⟩
      · replace c12 := Bool.eq_false_iff.mpr c12
        subst c12
        have H1 : (if t419 = 0 then (if (t412.length : Int) = (t416.length : Int) then (gatelinelaw18_FieldsMore.j1 kj3 t412 t416 (decide ((t412.length : Int) < 1))) else (gatelinelaw18_FieldsMore.j1 kj3 t412 t416 true)) else (gatelinelaw18_FieldsMore.j1 kj3 t412 t416 true)) = some r := by rw [if_neg (show ¬ (false = true) by decide)] at H; exact H
        clear H
        have H := H1
        clear H1
        have HC15 := Aside0.mk H
        clear H
        go_upto_region 6 with (fail)
        go_cut [42] (fun v42 wc => ∃ (kq : Nat) (x42_14 : Bool), v42 = .bool x42_14 ∧ Aside0 (gatelinelaw18_FieldsMore.j1 kq t412 t416 x42_14 = some r) ∧ Aside0 (kq ≤ kj3) ∧ Aside0 (Kd.N k40 40 wc w.heap.size (fun k_ => some k_ ≠ (v417 : Value).ownBlock ∧ k_ ≠ gb411) v413 t412) ∧ Aside0 (Kd.N k40 40 wc w.heap.size (fun k_ => some k_ ≠ (v413 : Value).ownBlock ∧ k_ ≠ gb411) v417 t416) ∧ Aside0 (wc.heap[gb411]? = some (.cells #[.int .i64 a0_0, .int .i64 a0_1, .int .i64 a0_2, .int .i64 a0_3, .int .i64 a0_4, .int .i64 a0_5, .int .i64 a0_6, .int .i64 a0_7, .int .i64 a0_8, .int .i64 a0_9, .int .i64 a0_10, .int .i64 a0_11, .int .i64 a0_12, .int .i64 a0_13, .int .i64 (wrap64 (a0_14 + 1))] 46 (0, 0))) ∧ Aside0 (Below w.heap.size w wc))
        case first =>
          have H := HC15.out
          clear HC15
          by_cases c16 : t419 = 0
          · rw [if_pos c16] at H
            have c16b0 : (t419 == 0) = true := beq_iff_eq.mpr c16
            have c16b1 : (t419 != 0) = false := bne_eq_false_iff_eq.mpr c16
            clear c16
            (first | rw [c16b0] | (simp only [i64_w, i32_w]; rw [c16b0]) | skip)
            by_cases c17 : (t412.length : Int) = (t416.length : Int)
            · rw [if_pos c17] at H
              have c17b0 : ((t412.length : Int) == (t416.length : Int)) = true := beq_iff_eq.mpr c17
              have c17b1 : ((t412.length : Int) != (t416.length : Int)) = false := bne_eq_false_iff_eq.mpr c17
              have c17b2 : (t412.length == t416.length) = true := by first | simpa using c17 | (simp at c17 ⊢; omega)
              clear c17
              have H' := Aside0.mk H
              clear H
              obtain ⟨Ao18, co18, eo18⟩ := Kd.N_slice HO_3.out
              subst eo18
              obtain ⟨Ao19, co19, eo19⟩ := Kd.N_slice HO_5.out
              subst eo19
              go_wp2
              go_meet
              case rel => exact ⟨_, (decide ((t412.length : Int) < 1)), (by first | rfl | (simp; done) | (simp [*]; done)), H', ⟨by have := HJ3.out; first | omega | exact Nat.le_refl _⟩, ⟨by (with_reducible repeat (first | apply Kd.N_alloc | apply Kd.N_drewN | apply Kd.N_drew)); exact HO_3.out⟩, ⟨by (with_reducible repeat (first | apply Kd.N_alloc | apply Kd.N_drewN | apply Kd.N_drew)); exact HO_5.out⟩, ⟨by (with_reducible repeat (first | refine blk_drewN ?_ _ | refine blk_drew ?_ | refine blk_alloc ?_ _)); exact BK411.out⟩, ⟨by repeat (first | (with_reducible first | exact HB.out | apply below_alloc | apply pw_below_drewN | apply below_drew1 | refine below_set ?_ GE411.out) | exact HB.out)⟩⟩
            · rw [if_neg c17] at H
              have c17b0 : ((t412.length : Int) == (t416.length : Int)) = false := beq_eq_false_iff_ne.mpr c17
              have c17b1 : ((t412.length : Int) != (t416.length : Int)) = true := bne_iff_ne.mpr c17
              have c17b2 : (t412.length == t416.length) = false := by first | simpa using c17 | (simp at c17 ⊢; omega)
              have H' := Aside0.mk H
              clear H
              obtain ⟨Ao20, co20, eo20⟩ := Kd.N_slice HO_3.out
              subst eo20
              obtain ⟨Ao21, co21, eo21⟩ := Kd.N_slice HO_5.out
              subst eo21
              go_wp2
              go_meet
              case rel => exact ⟨_, (true), (by first | rfl | (simp; done) | (simp [*]; done)), H', ⟨by have := HJ3.out; first | omega | exact Nat.le_refl _⟩, ⟨by (with_reducible repeat (first | apply Kd.N_alloc | apply Kd.N_drewN | apply Kd.N_drew)); exact HO_3.out⟩, ⟨by (with_reducible repeat (first | apply Kd.N_alloc | apply Kd.N_drewN | apply Kd.N_drew)); exact HO_5.out⟩, ⟨by (with_reducible repeat (first | refine blk_drewN ?_ _ | refine blk_drew ?_ | refine blk_alloc ?_ _)); exact BK411.out⟩, ⟨by repeat (first | (with_reducible first | exact HB.out | apply below_alloc | apply pw_below_drewN | apply below_drew1 | refine below_set ?_ GE411.out) | exact HB.out)⟩⟩
          · rw [if_neg c16] at H
            have c16b0 : (t419 == 0) = false := beq_eq_false_iff_ne.mpr c16
            have c16b1 : (t419 != 0) = true := bne_iff_ne.mpr c16
            (first | rw [c16b0] | (simp only [i64_w, i32_w]; rw [c16b0]) | skip)
            have H' := Aside0.mk H
            clear H
            go_wp2
            go_meet
            case rel => exact ⟨_, (true), (by first | rfl | (simp; done) | (simp [*]; done)), H', ⟨by have := HJ3.out; first | omega | exact Nat.le_refl _⟩, ⟨by (with_reducible repeat (first | apply Kd.N_alloc | apply Kd.N_drewN | apply Kd.N_drew)); exact HO_3.out⟩, ⟨by (with_reducible repeat (first | apply Kd.N_alloc | apply Kd.N_drewN | apply Kd.N_drew)); exact HO_5.out⟩, ⟨by (with_reducible repeat (first | refine blk_drewN ?_ _ | refine blk_drew ?_ | refine blk_alloc ?_ _)); exact BK411.out⟩, ⟨by repeat (first | (with_reducible first | exact HB.out | apply below_alloc | apply pw_below_drewN | apply below_drew1 | refine below_set ?_ GE411.out) | exact HB.out)⟩⟩
        case rest =>
          clear HC15
          try clear c1
          try clear c2
          try clear p2
          try clear c3
          try clear p6
          try clear c10
          try clear c10b0
          try clear c10b1
          try clear c12
          try clear c16
          try clear c16b0
          try clear c16b1
          try clear c17
          try clear c17b0
          try clear c17b1
          try clear c17b2
          try clear hcz11_0
          try clear hcz11_1
          try clear hcz11_10
          try clear hcz11_11
          try clear hcz11_12
          try clear hcz11_13
          try clear hcz11_14
          try clear hcz11_2
          try clear hcz11_3
          try clear hcz11_4
          try clear hcz11_5
          try clear hcz11_6
          try clear hcz11_7
          try clear hcz11_8
          try clear hcz11_9
          try clear hcz6_0
          try clear hcz6_1
          try clear hcz6_10
          try clear hcz6_11
          try clear hcz6_12
          try clear hcz6_13
          try clear hcz6_14
          try clear hcz6_2
          try clear hcz6_3
          try clear hcz6_4
          try clear hcz6_5
          try clear hcz6_6
          try clear hcz6_7
          try clear hcz6_8
          try clear hcz6_9
          try clear hcz8_0
          try clear hcz8_1
          try clear hcz8_10
          try clear hcz8_11
          try clear hcz8_12
          try clear hcz8_13
          try clear hcz8_14
          try clear hcz8_2
          try clear hcz8_3
          try clear hcz8_4
          try clear hcz8_5
          try clear hcz8_6
          try clear hcz8_7
          try clear hcz8_8
          try clear hcz8_9
          try clear hfz11_0
          try clear hfz11_1
          try clear hfz11_10
          try clear hfz11_11
          try clear hfz11_12
          try clear hfz11_13
          try clear hfz11_14
          try clear hfz11_2
          try clear hfz11_3
          try clear hfz11_4
          try clear hfz11_5
          try clear hfz11_6
          try clear hfz11_7
          try clear hfz11_8
          try clear hfz11_9
          try clear hfz6_0
          try clear hfz6_1
          try clear hfz6_10
          try clear hfz6_11
          try clear hfz6_12
          try clear hfz6_13
          try clear hfz6_14
          try clear hfz6_2
          try clear hfz6_3
          try clear hfz6_4
          try clear hfz6_5
          try clear hfz6_6
          try clear hfz6_7
          try clear hfz6_8
          try clear hfz6_9
          try clear hfz8_0
          try clear hfz8_1
          try clear hfz8_10
          try clear hfz8_11
          try clear hfz8_12
          try clear hfz8_13
          try clear hfz8_14
          try clear hfz8_2
          try clear hfz8_3
          try clear hfz8_4
          try clear hfz8_5
          try clear hfz8_6
          try clear hfz8_7
          try clear hfz8_8
          try clear hfz8_9
          try clear p2
          try clear p6
          obtain ⟨kq, x42_14, rfl, HA, HJ14, HO_3, HO_5, BK411, HB⟩ := hcut
          cases kq with
          | zero => exact absurd HA.out (by simp [gatelinelaw18_FieldsMore.j1])
          | succ kj14 =>
            have H := HA.out
            clear HA
            simp only [gatelinelaw18_FieldsMore.j1] at H
            by_cases c22 : x42_14 = true
            · subst c22
              have H1 : (some false) = some r := by rw [if_pos rfl] at H; exact H
              clear H
              have H := H1
              clear H1
              obtain rfl := Option.some.inj H
              go_wp2
              go_ret
              exact ⟨by first | rfl | (simp [errW_none, errW_some] <;> rfl) | (simp [*, errW_none, errW_some] <;> rfl), by repeat (first | (with_reducible first | exact HB.out | apply below_alloc | apply pw_below_drewN | apply below_drew1 | refine below_set ?_ GE411.out) | exact HB.out)⟩
            · replace c22 := Bool.eq_false_iff.mpr c22
              subst c22
              have H1 : ((gatelinelaw18_told.f).bind fun t421 => (if t421 = true then (if 1 ≤ (t412.length : Int) then (if 1 ≤ (t416.length : Int) then ((gatelineref17_Same.f kj14 (t412.drop 1) (t416.drop 1)).bind fun t432 => (some t432)) else (none)) else (none)) else (some false))) = some r := by rw [if_neg (show ¬ (false = true) by decide)] at H; exact H
              clear H
              have H := H1
              clear H1
              replace H := Option.bind_eq_some_iff.mp H
              obtain ⟨t421, A230, H⟩ := H
              replace H : (if t421 = true then (if 1 ≤ (t412.length : Int) then (if 1 ≤ (t416.length : Int) then ((gatelineref17_Same.f kj14 (t412.drop 1) (t416.drop 1)).bind fun t432 => (some t432)) else (none)) else (none)) else (some false)) = some r := H
              have A23 := Aside0.mk A230
              clear A230
              by_cases c24 : t421 = true
              · subst c24
                have H1 : (if 1 ≤ (t412.length : Int) then (if 1 ≤ (t416.length : Int) then ((gatelineref17_Same.f kj14 (t412.drop 1) (t416.drop 1)).bind fun t432 => (some t432)) else (none)) else (none)) = some r := by rw [if_pos rfl] at H; exact H
                clear H
                have H := H1
                clear H1
                by_cases c25 : 1 ≤ (t412.length : Int)
                · rw [if_pos c25] at H
                  have c25b0 := eq_true c25
                  have c25b1 : decide (1 ≤ (t412.length : Int)) = true := decide_eq_true c25
                  clear c25
                  obtain ⟨y422, hy422⟩ : ∃ y_ : List (S40), y_ = (t412.drop 1) := ⟨_, rfl⟩
                  replace H : (if 1 ≤ (t416.length : Int) then ((gatelineref17_Same.f kj14 y422 (t416.drop 1)).bind fun t432 => (some t432)) else (none)) = some r := by first | (rw [hy422]; with_reducible exact H) | (have H2_ := (Option.bind_some _ _).symm.trans H; rw [hy422]; with_reducible exact H2_) | (have H2_ := (Option.bind_some _ _).symm.trans H; with_reducible exact H2_) | with_reducible exact H | (rw [hy422]; exact H) | exact H
                  have Ny422 := Aside0.mk hy422
                  clear hy422
                  by_cases c26 : 1 ≤ (t416.length : Int)
                  · rw [if_pos c26] at H
                    have c26b0 := eq_true c26
                    have c26b1 : decide (1 ≤ (t416.length : Int)) = true := decide_eq_true c26
                    clear c26
                    obtain ⟨y427, hy427⟩ : ∃ y_ : List (S40), y_ = (t416.drop 1) := ⟨_, rfl⟩
                    replace H : ((gatelineref17_Same.f kj14 y422 y427).bind fun t432 => (some t432)) = some r := by first | (rw [hy427]; with_reducible exact H) | (have H2_ := (Option.bind_some _ _).symm.trans H; rw [hy427]; with_reducible exact H2_) | (have H2_ := (Option.bind_some _ _).symm.trans H; with_reducible exact H2_) | with_reducible exact H | (rw [hy427]; exact H) | exact H
                    have Ny427 := Aside0.mk hy427
                    clear hy427
                    replace H := Option.bind_eq_some_iff.mp H
                    obtain ⟨t432, A270, H⟩ := H
                    replace H : (some t432) = some r := H
                    have A27 := Aside0.mk A270
                    clear A270
                    obtain rfl := Option.some.inj H
                    try go_wp2
                    have n0_ := Aside0.mk (Kd.N_drew HO_3.out)
                    have n1_ := Aside0.mk (Kd.N_drew HO_5.out)
                    have n2_ := Aside0.mk (blk_drew BK411.out)
                    have n3_ := Aside0.mk (below_drew1 HB.out)
                    clear HO_3
                    clear HO_5
                    clear BK411
                    clear HB
                    have HO_3 := n0_
                    have HO_5 := n1_
                    have BK411 := n2_
                    have HB := n3_
                    clear n0_ n1_ n2_ n3_
                    refine start_ (n := 9) (S := fun w' => True) (ds := []) #[false, false, false, false, false, false, false, false, false] (by kernel_rfl) rfl rfl trivial (fun hHeld => ?_); refine with_tabW gatelinelaw18_FieldsMore.tab8 gatelinelaw18_FieldsMore.bits8 (fun HT_ HW_ => ?_)
                    generalize wc.drew = w28 at HO_3 HO_5 BK411 HB hHeld ⊢
                    refine one_ (i := 0) (N := some 43) #[true, false, false, false, false, false, false, false, false] rfl rfl (one_of HT_.out (by kernel_rfl)) (by decide) (fun K hK => ?_)
                    refine goes_ Try.func32 (by kernel_rfl) rfl #[] (by rfl) rfl rfl (by (try simp only [List.map_toArray, List.map_cons, List.map_nil]); first | done | rfl | (simp only [List.length_drop, List.length_take]; rfl)) ?_
                    with_reducible refine (gatelinelaw18_told.calls  true _ A23.out).mono ?_
                    rintro e w29 ⟨rfl, hb⟩
                    refine ⟨_, rfl, ?_⟩
                    have n0_ := Aside0.mk (Kd.N_below (by (with_reducible repeat (first | apply Kd.N_alloc | apply Kd.N_drewN | apply Kd.N_drew)); exact HO_3.out) hb)
                    have n1_ := Aside0.mk (Kd.N_below (by (with_reducible repeat (first | apply Kd.N_alloc | apply Kd.N_drewN | apply Kd.N_drew)); exact HO_5.out) hb)
                    have n2_ := Aside0.mk (blk_below (g := gb411) (o := .cells #[.int .i64 a0_0, .int .i64 a0_1, .int .i64 a0_2, .int .i64 a0_3, .int .i64 a0_4, .int .i64 a0_5, .int .i64 a0_6, .int .i64 a0_7, .int .i64 a0_8, .int .i64 a0_9, .int .i64 a0_10, .int .i64 a0_11, .int .i64 a0_12, .int .i64 a0_13, .int .i64 (wrap64 (a0_14 + 1))] 46 (0, 0)) (by (with_reducible repeat (first | refine blk_drewN ?_ _ | refine blk_drew ?_ | refine blk_alloc ?_ _)); exact BK411.out) hb)
                    have n3_ := Aside0.mk (below_step (by repeat (first | (with_reducible first | exact HB.out | apply below_alloc | apply pw_below_drewN | apply below_drew1 | refine below_set ?_ GE411.out) | exact HB.out)) hb)
                    clear HO_3
                    clear HO_5
                    clear BK411
                    clear HB
                    have HO_3 := n0_
                    have HO_5 := n1_
                    have BK411 := n2_
                    have HB := n3_
                    clear n0_ n1_ n2_ n3_
                    (try clear hb)
                    (try clear hb2)
                    (try clear hk)
                    (try clear hi)
                    obtain ⟨Ao31, co31, eo31⟩ := Kd.N_slice HO_3.out
                    (first | subst eo31 | (injection eo31 with f1_ f2_ f3_; have f4_ := f1_.symm; have f5_ := f3_.symm; clear f1_ f2_ f3_; subst f4_; subst f5_))
                    have q30 : (1 : Int) ≤ ((t412.length : Int) : Int) := of_decide_eq_true (by first | (with_reducible assumption) | assumption)
                    obtain ⟨i030, hi030, _, hsz30, _⟩ := info_parts info40
                    have hroom30 : t412.length ≤ co31 := (Kd.N_reads' HO_3.out).2.1
                    have hC30 : Kd.F k40 _ _ Ao31 t412.length t412 := (Kd.V_at (base := w.heap.size) (Kd.N_V HO_3.out)).2.2
                    have hcut30 := cut_from (P := Try.prog) 22 40 .i64 Try.underlying22 hi030 2 hsz30 Ao31 t412.length co31 1 (by omega) q30
                    have hr30 := Kd.F_cut (m := (1 : Int).toNat) (c := co31) hC30 (by omega) hroom30
                    obtain ⟨A30, hA30⟩ : ∃ A1, A1 = (if co31 = (1 : Int).toNat then Ao31 else (Ao31 : Option Addr).map (·.add ((1 : Int).toNat * 2))) := ⟨_, rfl⟩
                    obtain ⟨c30, hc30⟩ : ∃ c1, c1 = co31 - (1 : Int).toNat := ⟨_, rfl⟩
                    have hy30 : y422.length = t412.length - (1 : Int).toNat := (by rw [Ny422.out, List.length_drop] <;> omega)
                    rw [show (t412).drop (1 : Int).toNat = y422 from Ny422.out.symm] at hr30
                    replace hr30 : Kd.F k40 _ _ A30 y422.length y422 := (by rw [hA30]; exact hr30)
                    rw [← hy30, ← hA30, ← hc30] at hcut30
                    have HO426 := Aside0.mk (show Kd.V k40 40 _ w.heap.size _ (.slice A30 y422.length c30) y422 from Kd.V_mk (by rw [hy30, hc30]; exact Nat.sub_le_sub_right hroom30 _) hr30)
                    have HC426 := Aside0.mk (show y422.length ≤ c30 from by rw [hy30, hc30]; exact Nat.sub_le_sub_right hroom30 _)
                    clear hr30 hC30 hroom30 hi030 hsz30 hc30
                    have KY30 := Aside0.mk hy30
                    have KA30 := Aside0.mk hA30
                    clear hy30 hA30
                    replace q30 := eq_true q30
                    obtain ⟨Ao33, co33, eo33⟩ := Kd.N_slice HO_5.out
                    (first | subst eo33 | (injection eo33 with f1_ f2_ f3_; have f4_ := f1_.symm; have f5_ := f3_.symm; clear f1_ f2_ f3_; subst f4_; subst f5_))
                    have q32 : (1 : Int) ≤ ((t416.length : Int) : Int) := of_decide_eq_true (by first | (with_reducible assumption) | assumption)
                    obtain ⟨i032, hi032, _, hsz32, _⟩ := info_parts info40
                    have hroom32 : t416.length ≤ co33 := (Kd.N_reads' HO_5.out).2.1
                    have hC32 : Kd.F k40 _ _ Ao33 t416.length t416 := (Kd.V_at (base := w.heap.size) (Kd.N_V HO_5.out)).2.2
                    have hcut32 := cut_from (P := Try.prog) 22 40 .i64 Try.underlying22 hi032 2 hsz32 Ao33 t416.length co33 1 (by omega) q32
                    have hr32 := Kd.F_cut (m := (1 : Int).toNat) (c := co33) hC32 (by omega) hroom32
                    obtain ⟨A32, hA32⟩ : ∃ A1, A1 = (if co33 = (1 : Int).toNat then Ao33 else (Ao33 : Option Addr).map (·.add ((1 : Int).toNat * 2))) := ⟨_, rfl⟩
                    obtain ⟨c32, hc32⟩ : ∃ c1, c1 = co33 - (1 : Int).toNat := ⟨_, rfl⟩
                    have hy32 : y427.length = t416.length - (1 : Int).toNat := (by rw [Ny427.out, List.length_drop] <;> omega)
                    rw [show (t416).drop (1 : Int).toNat = y427 from Ny427.out.symm] at hr32
                    replace hr32 : Kd.F k40 _ _ A32 y427.length y427 := (by rw [hA32]; exact hr32)
                    rw [← hy32, ← hA32, ← hc32] at hcut32
                    have HO431 := Aside0.mk (show Kd.V k40 40 _ w.heap.size _ (.slice A32 y427.length c32) y427 from Kd.V_mk (by rw [hy32, hc32]; exact Nat.sub_le_sub_right hroom32 _) hr32)
                    have HC431 := Aside0.mk (show y427.length ≤ c32 from by rw [hy32, hc32]; exact Nat.sub_le_sub_right hroom32 _)
                    clear hr32 hC32 hroom32 hi032 hsz32 hc32
                    have KY32 := Aside0.mk hy32
                    have KA32 := Aside0.mk hA32
                    clear hy32 hA32
                    replace q32 := eq_true q32
                    refine hK.out _ _ trivial (fun hHeld => ?_)
                    clear hK K
                    refine norm_ (a' := ?_) ?_ ?_
                    rotate_left
                    · show Act.put _ (some 43) _ = _
                      simp only [Act.put, List.setIfInBounds_toArray, List.set_cons_zero, List.set_cons_succ, i64_w, i32_w]
                      rfl
                    refine pure_ (i := 1) (N := some 44) (v := ?_) (a' := ?_) #[true, true, false, false, false, false, false, false, false] rfl rfl (any_of HT_.out (by kernel_rfl)) (fun _ _ _ h => h) (Or.inl ⟨by rfl, ?_⟩) ?_ ?_
                    rotate_left
                    · intro w'
                      go_simp
                      with_reducible rfl
                    rotate_left
                    · simp only [Act.put, List.setIfInBounds_toArray, List.set_cons_zero, List.set_cons_succ, i64_w, i32_w]
                      rfl
                    refine pure_ (i := 2) (N := some 45) (v := ?_) (a' := ?_) #[true, true, true, false, false, false, false, false, false] rfl rfl (any_of HT_.out (by kernel_rfl)) (fun _ _ _ h => h) (Or.inl ⟨by rfl, ?_⟩) ?_ ?_
                    rotate_left
                    · intro w'
                      go_simp
                      with_reducible rfl
                    rotate_left
                    · simp only [Act.put, List.setIfInBounds_toArray, List.set_cons_zero, List.set_cons_succ, i64_w, i32_w]
                      rfl
                    refine pure_ (i := 3) (N := some 46) (v := ?_) (a' := ?_) #[true, true, true, true, false, false, false, false, false] rfl rfl (any_of HT_.out (by kernel_rfl)) (fun _ _ _ h => h) (Or.inl ⟨by rfl, ?_⟩) ?_ ?_
                    rotate_left
                    · intro w'
                      go_simp
                      with_reducible rfl
                    rotate_left
                    · simp only [Act.put, List.setIfInBounds_toArray, List.set_cons_zero, List.set_cons_succ, i64_w, i32_w]
                      rfl
                    refine pure_ (i := 4) (N := some 47) (v := ?_) (a' := ?_) #[true, true, true, true, true, false, false, false, false] rfl rfl (any_of HT_.out (by kernel_rfl)) (fun _ _ _ h => h) (Or.inl ⟨by rfl, ?_⟩) ?_ ?_
                    rotate_left
                    · intro w'
                      go_simp
                      with_reducible rfl
                    rotate_left
                    · simp only [Act.put, List.setIfInBounds_toArray, List.set_cons_zero, List.set_cons_succ, i64_w, i32_w]
                      rfl
                    refine pure_ (i := 5) (N := some 48) (v := ?_) (a' := ?_) #[true, true, true, true, true, true, false, false, false] rfl rfl (any_of HT_.out (by kernel_rfl)) (fun _ _ _ h => h) (Or.inl ⟨by rfl, ?_⟩) ?_ ?_
                    rotate_left
                    · intro w'
                      go_simp
                      with_reducible rfl
                    rotate_left
                    · simp only [Act.put, List.setIfInBounds_toArray, List.set_cons_zero, List.set_cons_succ, i64_w, i32_w]
                      rfl
                    refine one_ (i := 6) (N := some 49) #[true, true, true, true, true, true, true, false, false] rfl rfl (one_of HT_.out (by kernel_rfl)) (by decide) (fun K hK => ?_)
                    refine goes_ Try.func23 (by kernel_rfl) rfl #[.slice A30 y422.length c30, .slice A32 y427.length c32] (by rfl) rfl rfl (by (try simp only [List.map_toArray, List.map_cons, List.map_nil]); first | done | rfl | (simp only [List.length_drop, List.length_take]; rfl)) ?_
                    with_reducible refine (gatelineref17_Same.calls kj14 _ _ y422 _ _ y427 t432 _ ?side1 ?side2 ?side3 ?side4 A27.out).mono ?_
                    (case side1 => repeat (first | exact (Kd.V_reads' HO426.out).2.2 | (with_reducible refine Kd.C_alloc ?_ _) | (with_reducible refine Kd.C_drewN ?_ _) | (with_reducible refine Kd.C_drew ?_)))
                    (case side2 => exact (Kd.V_reads' HO426.out).2.1)
                    (case side3 => repeat (first | exact (Kd.V_reads' HO431.out).2.2 | (with_reducible refine Kd.C_alloc ?_ _) | (with_reducible refine Kd.C_drewN ?_ _) | (with_reducible refine Kd.C_drew ?_)))
                    (case side4 => exact (Kd.V_reads' HO431.out).2.1)
                    rintro e w' ⟨rfl, ⟨nd, rfl⟩⟩
                    refine ⟨_, rfl, ?_⟩
                    refine hK.out _ _ trivial (fun hHeld => ?_)
                    clear hK K
                    refine norm_ (a' := ?_) ?_ ?_
                    rotate_left
                    · show Act.put _ (some 49) _ = _
                      simp only [Act.put, List.setIfInBounds_toArray, List.set_cons_zero, List.set_cons_succ, i64_w, i32_w]
                      rfl
                    refine pure_ (i := 7) (N := some 50) (v := ?_) (a' := ?_) #[true, true, true, true, true, true, true, true, false] rfl rfl (any_of HT_.out (by kernel_rfl)) (fun _ _ _ h => h) (Or.inl ⟨by rfl, ?_⟩) ?_ ?_
                    rotate_left
                    · intro w'
                      go_simp
                      with_reducible rfl
                    rotate_left
                    · simp only [Act.put, List.setIfInBounds_toArray, List.set_cons_zero, List.set_cons_succ, i64_w, i32_w]
                      rfl
                    refine pure_ (i := 8) (N := some 2) (v := ?_) (a' := ?_) #[true, true, true, true, true, true, true, true, true] rfl rfl (any_of HT_.out (by kernel_rfl)) (fun _ _ _ h => h) (Or.inl ⟨by rfl, ?_⟩) ?_ ?_
                    rotate_left
                    · intro w'
                      go_simp
                      with_reducible rfl
                    rotate_left
                    · simp only [Act.put, List.setIfInBounds_toArray, List.set_cons_zero, List.set_cons_succ, i64_w, i32_w]
                      rfl
                    refine done_ (done_of HT_.out (by kernel_rfl)) ?_
                    try go_wp2
                    go_ret
                    exact ⟨by first | rfl | (simp [errW_none, errW_some] <;> rfl) | (simp [*, errW_none, errW_some] <;> rfl), by repeat (first | (with_reducible first | exact HB.out | apply below_alloc | apply pw_below_drewN | apply below_drew1 | refine below_set ?_ GE411.out) | exact HB.out)⟩
                  · rw [if_neg c26] at H
                    exact absurd H (by simp)
                · rw [if_neg c25] at H
                  exact absurd H (by simp)
              · replace c24 := Bool.eq_false_iff.mpr c24
                subst c24
                have H1 : (some false) = some r := by rw [if_neg (show ¬ (false = true) by decide)] at H; exact H
                clear H
                have H := H1
                clear H1
                obtain rfl := Option.some.inj H
                try go_wp2
                have n0_ := Aside0.mk (Kd.N_drew HO_3.out)
                have n1_ := Aside0.mk (Kd.N_drew HO_5.out)
                have n2_ := Aside0.mk (blk_drew BK411.out)
                have n3_ := Aside0.mk (below_drew1 HB.out)
                clear HO_3
                clear HO_5
                clear BK411
                clear HB
                have HO_3 := n0_
                have HO_5 := n1_
                have BK411 := n2_
                have HB := n3_
                clear n0_ n1_ n2_ n3_
                refine start_ (n := 9) (S := fun w' => True) (ds := []) #[false, false, false, false, false, false, false, false, false] (by kernel_rfl) rfl rfl trivial (fun hHeld => ?_); refine with_tabW gatelinelaw18_FieldsMore.tab8 gatelinelaw18_FieldsMore.bits8 (fun HT_ HW_ => ?_)
                generalize wc.drew = w34 at HO_3 HO_5 BK411 HB hHeld ⊢
                refine one_ (i := 0) (N := some 43) #[true, false, false, false, false, false, false, false, false] rfl rfl (one_of HT_.out (by kernel_rfl)) (by decide) (fun K hK => ?_)
                refine goes_ Try.func32 (by kernel_rfl) rfl #[] (by rfl) rfl rfl (by (try simp only [List.map_toArray, List.map_cons, List.map_nil]); first | done | rfl | (simp only [List.length_drop, List.length_take]; rfl)) ?_
                with_reducible refine (gatelinelaw18_told.calls  false _ A23.out).mono ?_
                rintro e w35 ⟨rfl, hb⟩
                refine ⟨_, rfl, ?_⟩
                have n0_ := Aside0.mk (Kd.N_below (by (with_reducible repeat (first | apply Kd.N_alloc | apply Kd.N_drewN | apply Kd.N_drew)); exact HO_3.out) hb)
                have n1_ := Aside0.mk (Kd.N_below (by (with_reducible repeat (first | apply Kd.N_alloc | apply Kd.N_drewN | apply Kd.N_drew)); exact HO_5.out) hb)
                have n2_ := Aside0.mk (blk_below (g := gb411) (o := .cells #[.int .i64 a0_0, .int .i64 a0_1, .int .i64 a0_2, .int .i64 a0_3, .int .i64 a0_4, .int .i64 a0_5, .int .i64 a0_6, .int .i64 a0_7, .int .i64 a0_8, .int .i64 a0_9, .int .i64 a0_10, .int .i64 a0_11, .int .i64 a0_12, .int .i64 a0_13, .int .i64 (wrap64 (a0_14 + 1))] 46 (0, 0)) (by (with_reducible repeat (first | refine blk_drewN ?_ _ | refine blk_drew ?_ | refine blk_alloc ?_ _)); exact BK411.out) hb)
                have n3_ := Aside0.mk (below_step (by repeat (first | (with_reducible first | exact HB.out | apply below_alloc | apply pw_below_drewN | apply below_drew1 | refine below_set ?_ GE411.out) | exact HB.out)) hb)
                clear HO_3
                clear HO_5
                clear BK411
                clear HB
                have HO_3 := n0_
                have HO_5 := n1_
                have BK411 := n2_
                have HB := n3_
                clear n0_ n1_ n2_ n3_
                (try clear hb)
                (try clear hb2)
                (try clear hk)
                (try clear hi)
                refine hK.out _ _ trivial (fun hHeld => ?_)
                clear hK K
                refine norm_ (a' := ?_) ?_ ?_
                rotate_left
                · show Act.put _ (some 43) _ = _
                  simp only [Act.put, List.setIfInBounds_toArray, List.set_cons_zero, List.set_cons_succ, i64_w, i32_w]
                  rfl
                refine pure_ (i := 1) (N := some 44) (v := ?_) (a' := ?_) #[true, true, false, false, false, false, false, false, false] rfl rfl (any_of HT_.out (by kernel_rfl)) (fun _ _ _ h => h) (Or.inl ⟨by rfl, ?_⟩) ?_ ?_
                rotate_left
                · intro w'
                  go_simp
                  with_reducible rfl
                rotate_left
                · simp only [Act.put, List.setIfInBounds_toArray, List.set_cons_zero, List.set_cons_succ, i64_w, i32_w]
                  rfl
                refine pure_ (i := 2) (N := some 45) (v := undef) (a' := ?_) #[true, true, true, false, false, false, false, false, false] rfl rfl (any_of HT_.out (by kernel_rfl)) (fun _ _ _ h => h) (Or.inr ⟨by rfl, rfl⟩) ?_ ?_
                rotate_left
                · simp only [Act.put, List.setIfInBounds_toArray, List.set_cons_zero, List.set_cons_succ, i64_w, i32_w]
                  rfl
                refine pure_ (i := 3) (N := some 46) (v := undef) (a' := ?_) #[true, true, true, true, false, false, false, false, false] rfl rfl (any_of HT_.out (by kernel_rfl)) (fun _ _ _ h => h) (Or.inr ⟨by rfl, rfl⟩) ?_ ?_
                rotate_left
                · simp only [Act.put, List.setIfInBounds_toArray, List.set_cons_zero, List.set_cons_succ, i64_w, i32_w]
                  rfl
                refine pure_ (i := 4) (N := some 47) (v := undef) (a' := ?_) #[true, true, true, true, true, false, false, false, false] rfl rfl (any_of HT_.out (by kernel_rfl)) (fun _ _ _ h => h) (Or.inr ⟨by rfl, rfl⟩) ?_ ?_
                rotate_left
                · simp only [Act.put, List.setIfInBounds_toArray, List.set_cons_zero, List.set_cons_succ, i64_w, i32_w]
                  rfl
                refine pure_ (i := 5) (N := some 48) (v := undef) (a' := ?_) #[true, true, true, true, true, true, false, false, false] rfl rfl (any_of HT_.out (by kernel_rfl)) (fun _ _ _ h => h) (Or.inr ⟨by rfl, rfl⟩) ?_ ?_
                rotate_left
                · simp only [Act.put, List.setIfInBounds_toArray, List.set_cons_zero, List.set_cons_succ, i64_w, i32_w]
                  rfl
                refine pure_ (i := 6) (N := some 49) (v := undef) (a' := ?_) #[true, true, true, true, true, true, true, false, false] rfl rfl (any_of HT_.out (by kernel_rfl)) (fun _ _ _ h => h) (Or.inr ⟨by rfl, rfl⟩) ?_ ?_
                rotate_left
                · simp only [Act.put, List.setIfInBounds_toArray, List.set_cons_zero, List.set_cons_succ, i64_w, i32_w]
                  rfl
                refine pure_ (i := 7) (N := some 50) (v := ?_) (a' := ?_) #[true, true, true, true, true, true, true, true, false] rfl rfl (any_of HT_.out (by kernel_rfl)) (fun _ _ _ h => h) (Or.inl ⟨by rfl, ?_⟩) ?_ ?_
                rotate_left
                · intro w'
                  go_simp
                  with_reducible rfl
                rotate_left
                · simp only [Act.put, List.setIfInBounds_toArray, List.set_cons_zero, List.set_cons_succ, i64_w, i32_w]
                  rfl
                refine pure_ (i := 8) (N := some 2) (v := ?_) (a' := ?_) #[true, true, true, true, true, true, true, true, true] rfl rfl (any_of HT_.out (by kernel_rfl)) (fun _ _ _ h => h) (Or.inl ⟨by rfl, ?_⟩) ?_ ?_
                rotate_left
                · intro w'
                  go_simp
                  with_reducible rfl
                rotate_left
                · simp only [Act.put, List.setIfInBounds_toArray, List.set_cons_zero, List.set_cons_succ, i64_w, i32_w]
                  rfl
                refine done_ (done_of HT_.out (by kernel_rfl)) ?_
                try go_wp2
                go_ret
                exact ⟨by first | rfl | (simp [errW_none, errW_some] <;> rfl) | (simp [*, errW_none, errW_some] <;> rfl), by repeat (first | (with_reducible first | exact HB.out | apply below_alloc | apply pw_below_drewN | apply below_drew1 | refine below_set ?_ GE411.out) | exact HB.out)⟩

end Go.Proofs.Ytekgienbhpknlaa.PL
end
section
set_option linter.unusedVariables false
namespace Go.Proofs.Ytekgienbhpknlaa.Pure
open Go Go.RowKit Go.Proofs.Ytekgienbhpknlaa.Q Go.Proofs.Ytekgienbhpknlaa.G Go.Proofs.Ytekgienbhpknlaa.PL Go.Proofs.YtekgienbhpknlaaW.PrintWords Go.Proofs.YtekgienbhpknlaaW.PrintLast Go.Proofs.YtekgienbhpknlaaW.PrintMore
theorem told_more (k : Nat) (a b : List SF) (n : Int) : gatelinelaw18_FieldsMore.j0 (k + 1) a b n true = some true := by
  rw [gatelinelaw18_FieldsMore.j0, if_pos rfl, show gatelinelaw18_told.f = some true from rfl, Option.bind_some]
theorem eff_next {v0 v1 v2 v3 v4 v5 v6 v7 v8 v9 v10 v11 v12 v13 v14 : Int} (t : Int) (h : 2 ≤ t) : eff v0 v1 v2 v3 v4 v5 v6 v7 v8 v9 v10 v11 v12 v13 (v14 + 1) t = eff v0 v1 v2 v3 v4 v5 v6 v7 v8 v9 v10 v11 v12 v13 v14 t := by
  unfold eff
  split
  · rfl
  · have n1 : ¬ t = 1 := by omega
    simp only [numAt, if_neg n1]
theorem FieldsMore (v0 v1 v2 v3 v4 v5 v6 v7 v8 v9 v10 v11 v12 v13 v14 : Int) (_ : (Lit.int .i64 v0).wf = true) (_ : (Lit.int .i64 v1).wf = true) (_ : (Lit.int .i64 v2).wf = true) (_ : (Lit.int .i64 v3).wf = true) (_ : (Lit.int .i64 v4).wf = true) (_ : (Lit.int .i64 v5).wf = true) (_ : (Lit.int .i64 v6).wf = true) (_ : (Lit.int .i64 v7).wf = true) (_ : (Lit.int .i64 v8).wf = true) (_ : (Lit.int .i64 v9).wf = true) (_ : (Lit.int .i64 v10).wf = true) (_ : (Lit.int .i64 v11).wf = true) (_ : (Lit.int .i64 v12).wf = true) (_ : (Lit.int .i64 v13).wf = true) (_ : (Lit.int .i64 v14).wf = true) : ∃ k : Nat, gatelinelaw18_FieldsMore.f k v0 v1 v2 v3 v4 v5 v6 v7 v8 v9 v10 v11 v12 v13 v14 = some true := by
  have h0 : ∀ k, gatelinelaw18_FieldsMore.f k v0 v1 v2 v3 v4 v5 v6 v7 v8 v9 v10 v11 v12 v13 v14 = if (fputR v0 v1 v2 v3 v4 v5 v6 v7 v8 v9 v10 v11 v12 v13 v14).2 = 0 then gatelinelaw18_FieldsMore.j0 k (fputR v0 v1 v2 v3 v4 v5 v6 v7 v8 v9 v10 v11 v12 v13 v14).1 (fputR v0 v1 v2 v3 v4 v5 v6 v7 v8 v9 v10 v11 v12 v13 (wrap64 (v14 + 1))).1 (fputR v0 v1 v2 v3 v4 v5 v6 v7 v8 v9 v10 v11 v12 v13 (wrap64 (v14 + 1))).2 (decide ((wrap64 (v14 + 1)) > 3)) else gatelinelaw18_FieldsMore.j0 k (fputR v0 v1 v2 v3 v4 v5 v6 v7 v8 v9 v10 v11 v12 v13 v14).1 (fputR v0 v1 v2 v3 v4 v5 v6 v7 v8 v9 v10 v11 v12 v13 (wrap64 (v14 + 1))).1 (fputR v0 v1 v2 v3 v4 v5 v6 v7 v8 v9 v10 v11 v12 v13 (wrap64 (v14 + 1))).2 true := fun k => rfl
  by_cases hE : (fputR v0 v1 v2 v3 v4 v5 v6 v7 v8 v9 v10 v11 v12 v13 v14).2 = 0
  · obtain ⟨hk, hb, ha⟩ := fput_yes hE
    obtain ⟨hI, hk0, hk1, hj0, hj1, hv0, hv1⟩ := id hk
    have hw : wrap64 (v14 + 1) = v14 + 1 := Pure.w64 (by omega) (by omega)
    rw [hw] at h0
    by_cases h3 : v14 + 1 > 3
    · exact ⟨1, by rw [h0, if_pos hE, decide_eq_true h3, told_more]⟩
    · have hk' : okR v0 v1 v2 v3 v4 v5 v6 v7 v8 v9 v10 v11 v12 v13 (v14 + 1) := ⟨hI, hk0, hk1, hj0, hj1, by omega, by omega⟩
      have e1 : eff v0 v1 v2 v3 v4 v5 v6 v7 v8 v9 v10 v11 v12 v13 v14 1 = v14 := rfl
      have e1' : eff v0 v1 v2 v3 v4 v5 v6 v7 v8 v9 v10 v11 v12 v13 (v14 + 1) 1 = v14 + 1 := rfl
      rw [bad, Bool.or_eq_false_iff] at hb
      have hb' : bad (eff v0 v1 v2 v3 v4 v5 v6 v7 v8 v9 v10 v11 v12 v13 (v14 + 1)) (v14 + 1) 13 1 = false := by
        rw [bad, Bool.or_eq_false_iff]
        refine ⟨?_, bad_congr 12 2 (fun t h1 _ => (eff_next t h1).symm) (by omega) hb.2⟩
        have : verT 1 = 1 := rfl
        simp only [this, Bool.and_eq_false_iff, decide_eq_false_iff_not]
        exact .inr (by omega)
      have hb2 : fputR v0 v1 v2 v3 v4 v5 v6 v7 v8 v9 v10 v11 v12 v13 (v14 + 1) = (flds (eff v0 v1 v2 v3 v4 v5 v6 v7 v8 v9 v10 v11 v12 v13 (v14 + 1)) 13 1, 0) := by rw [fput_ok_eq hk', if_neg (by rw [hb']; decide)]
      have hf : flds (eff v0 v1 v2 v3 v4 v5 v6 v7 v8 v9 v10 v11 v12 v13 (v14 + 1)) 13 1 = ⟨1, (numR (v14 + 1)).1⟩ :: flds (eff v0 v1 v2 v3 v4 v5 v6 v7 v8 v9 v10 v11 v12 v13 v14) 12 2 := by
        rw [flds, if_neg (by rw [e1']; omega), e1']
        exact congrArg _ (flds_congr 12 2 (fun t h1 _ => eff_next t h1))
      have ha' : (fputR v0 v1 v2 v3 v4 v5 v6 v7 v8 v9 v10 v11 v12 v13 v14).1 = ⟨1, (numR v14).1⟩ :: flds (eff v0 v1 v2 v3 v4 v5 v6 v7 v8 v9 v10 v11 v12 v13 v14) 12 2 := by
        rw [ha, flds, if_neg (by rw [e1]; omega), e1]
        rfl
      obtain ⟨K, hK⟩ := same17_ev (flds (eff v0 v1 v2 v3 v4 v5 v6 v7 v8 v9 v10 v11 v12 v13 v14) 12 2) (flds (eff v0 v1 v2 v3 v4 v5 v6 v7 v8 v9 v10 v11 v12 v13 v14) 12 2) 8 (by decide) (by have := flds_length (eff v0 v1 v2 v3 v4 v5 v6 v7 v8 v9 v10 v11 v12 v13 v14) 12 2; omega) (fun x hx => by rw [(flds_values _ _ _ x hx).2.2.2]; exact numR_length _)
      have hS : gatelineref17_Same.f K (flds (eff v0 v1 v2 v3 v4 v5 v6 v7 v8 v9 v10 v11 v12 v13 v14) 12 2) (flds (eff v0 v1 v2 v3 v4 v5 v6 v7 v8 v9 v10 v11 v12 v13 v14) 12 2) = some true := by have := hK K (Nat.le_refl _); simpa using this
      refine ⟨K + 1 + 1, ?_⟩
      rw [h0, if_pos hE, decide_eq_false h3, gatelinelaw18_FieldsMore.j0, if_neg (by decide), hb2, if_pos rfl, ha', hf, if_pos (by rw [List.length_cons, List.length_cons]), gatelinelaw18_FieldsMore.j1, if_neg (by rw [decide_eq_true_eq, List.length_cons]; omega), show gatelinelaw18_told.f = some true from rfl, Option.bind_some, if_pos rfl, if_pos (by rw [List.length_cons]; omega), if_pos (by rw [List.length_cons]; omega), List.drop_succ_cons, List.drop_zero, List.drop_succ_cons, List.drop_zero, hS, Option.bind_some]
  · exact ⟨1, by rw [h0, if_neg hE, told_more]⟩
end Go.Proofs.Ytekgienbhpknlaa.Pure
end
section
namespace Go.Proofs.Ytekgienbhpknlaa.fieldsMore
open Go.ChangeShapes Go.WideShapes Go.ChangeAt Go.RowKit Go.Proofs.YtekgienbhpknlaaW.PrintWords
theorem own : ownKnob Try.prog.godebug = none := by kernel_rfl
theorem laidOut : laidOutB Try.prog = true := by kernel_rfl
set_option maxRecDepth 100000 in
theorem lifted (os : Os) (started : os.Started) (H : Type) (enc : TypeId × Value → H) :
    ReturnsInHanded {} Try.checked os 12 .any (Rows.fieldsMoreSpec.pre6 enc Try.prog Try.f12 Rows.fieldsMoreRow.domain false) (Rows.fieldsMoreSpec.post enc Try.prog Try.f12 false true false false) := by
  refine returnsInHanded_of_change_sized (C := Try.checked) own started (by kernel_rfl) Try.func12
    (ChangeSpec.witness6 (enc := enc) (C := Try.checked) false ⟨#[], #[.agg #[.int .i64 0, .int .i64 0, .int .i64 0, .int .i64 0, .int .i64 0, .int .i64 0, .int .i64 0, .int .i64 0, .int .i64 0, .int .i64 0, .int .i64 0, .int .i64 0, .int .i64 0, .int .i64 0, .int .i64 0]], []⟩ 8 (by kernel_rfl) (by kernel_rfl) (by kernel_rfl) (by kernel_rfl)) ?_
  intro W base args ds gs before hval0 hW hcnd hsz0 _
  have hval : ∀ (j : Nat) t v, Try.f12.params[j]? = some t → args[j]? = some v → Value.okWide Try.prog W .any base t v := hval0
  have hW' := hW
  obtain ⟨p, q, hA0, hV, rfl, hfz, hnd⟩ := hW
  have hA : DataW.TrodAll enc Try.prog W 0 (fun _ => true) true Try.f12.params.toList args.toList ds p := hA0
  rw [Try.params12] at hA hval
  obtain ⟨v0, vs0, d0, ds0, p0, q0, hargs, rfl, rfl, h0, r0⟩ := trodAll_cons hA
  obtain ⟨rfl, rfl, rfl⟩ := trodAll_nil r0
  obtain rfl : args = #[v0] := by cases args; simp_all
  obtain ⟨rfl, rfl⟩ := trodVars_none hV
  have k0 := h0
  have lt0 : ∀ x ∈ p0, x.block < W.heap.size := by obtain ⟨m, hm⟩ := k0; exact DataW.trod_lt m _ _ _ hm
  obtain ⟨a0_0, a0_1, a0_2, a0_3, a0_4, a0_5, a0_6, a0_7, a0_8, a0_9, a0_10, a0_11, a0_12, a0_13, a0_14, rfl, wa0_0, wa0_1, wa0_2, wa0_3, wa0_4, wa0_5, wa0_6, wa0_7, wa0_8, wa0_9, wa0_10, wa0_11, wa0_12, wa0_13, wa0_14⟩ := G.open_read Try.underlying46 rfl (by kernel_rfl) Try.underlying42 (by kernel_rfl) rfl (by kernel_rfl) Try.underlying3 rfl (by kernel_rfl) Try.underlying44 (by kernel_rfl) rfl (by kernel_rfl) Try.underlying3 (by kernel_rfl) (hval 0 46 v0 rfl rfl) h0
  clear hA0 hval0 hsz0
  obtain ⟨k, hk⟩ := Pure.FieldsMore a0_0 a0_1 a0_2 a0_3 a0_4 a0_5 a0_6 a0_7 a0_8 a0_9 a0_10 a0_11 a0_12 a0_13 a0_14 wa0_0 wa0_1 wa0_2 wa0_3 wa0_4 wa0_5 wa0_6 wa0_7 wa0_8 wa0_9 wa0_10 wa0_11 wa0_12 wa0_13 wa0_14
  refine (PL.gatelinelaw18_FieldsMore.calls k a0_0 a0_1 a0_2 a0_3 a0_4 a0_5 a0_6 a0_7 a0_8 a0_9 a0_10 a0_11 a0_12 a0_13 a0_14 true W  hk).mono fun e W' ⟨he, bel⟩ => ?_
  subst he
  exact ⟨_, rfl, _, _, _, [], _, [], hW', trodAll_mk1 (shut_bool Try.underlying4 _), (trodAll_cons_mk (Below.trod laidOut (by kernel_rfl) (of_decide_eq_true (by kernel_rfl)) k0 bel lt0) trodAll_mk0), rfl, bel.frame _, fun h => by cases h⟩
theorem over : Rows.fieldsMoreRow.holds Try.pinned (OpenSpec.ofChange Rows.fieldsMoreSpec) :=
  OpenClaim.holds_of_wide 12 Try.f12 rfl rfl rfl rfl rfl rfl rfl ⟨rfl, rfl, rfl, rfl, rfl⟩ rfl rfl rfl rfl rfl (by kernel_rfl) Try.func12 (by kernel_rfl)
    (of_decide_eq_true (by kernel_rfl)) (by unfold Func.isWrapper; first | (rw [if_pos (by decide +kernel)]; kernel_rfl) | (rw [if_neg (by decide +kernel)]; exact ⟨rfl, rfl⟩))
    (fun os started H enc _ => lifted os started H enc)
theorem proved : Rows.FieldsMoreSaid := over
#print axioms proved
end Go.Proofs.Ytekgienbhpknlaa.fieldsMore
namespace Go.Proofs.Ytekgienbhpknlaa
/-- The row, under a short name, for the claim. -/
theorem fieldsMore_holds : Rows.FieldsMoreSaid := fieldsMore.proved
end Go.Proofs.Ytekgienbhpknlaa
end
