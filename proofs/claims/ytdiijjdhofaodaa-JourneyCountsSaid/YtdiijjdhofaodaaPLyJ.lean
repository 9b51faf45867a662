-- Written by the kit's print program (laid anew by this session's regroup.py). Not trusted: Lean checks it.
import Derived.Test.YtdiijjdhofaodaaPLx0
import Derived.Test.YtdiijjdhofaodaaPLyF
import Derived.Test.YtdiijjdhofaodaaPLyK
namespace Go.Proofs.Ytdiijjdhofaodaa.PL
open Go.RowKit Go.Proofs.YtdiijjdhofaodaaW.PrintWords Go.Proofs.YtdiijjdhofaodaaW.PrintLast Go.Proofs.YtdiijjdhofaodaaW.PrintMore
attribute [local go_sem] max2_int min2_int max_two min_two max_three min_three max_four min_four   -- for this text's walks alone
set_option linter.unusedVariables false
set_option linter.unusedSimpArgs false

/-! ### gatelinelaw23_JourneyCounts: function 6 -/
mutual
def gatelinelaw23_JourneyCounts.j0 : Nat → List Int → Bool → Int → Int → Int → Int → Int → Int → Int → Int → Int → Int → Int → Int → Int → Option (Bool)
  | 0, _, _, _, _, _, _, _, _, _, _, _, _, _, _, _ => none
  | k + 1, x1, x28, x277000, x277001, x277002, x277003, x277004, x277005, x277006, x277007, x277008, x277009, x277010, x281000, x281001 => if x28 = true then ((gatelinelaw23_gone.f).bind fun t281 => (some t281)) else (gatelinelaw23_JourneyCounts.l0 k x1 0 false 0 x277000 x277001 x277002 x277003 x277004 x277005 x277006 x277007 x277008 x277009 x277010 x281000 x281001)
def gatelinelaw23_JourneyCounts.l0 : Nat → List Int → Int → Bool → Int → Int → Int → Int → Int → Int → Int → Int → Int → Int → Int → Int → Int → Int → Option (Bool)
  | 0, _, _, _, _, _, _, _, _, _, _, _, _, _, _, _, _, _ => none
  | k + 1, x1, x7, x8, x9, x277000, x277001, x277002, x277003, x277004, x277005, x277006, x277007, x277008, x277009, x277010, x281000, x281001 => if x9 < (x1.length : Int) then (if 0 ≤ x9 then (if (rd x1 x9) ≥ 100 then (gatelinelaw23_JourneyCounts.j2 k x1 x7 x8 x9 (rd x1 x9) (decide ((rd x1 x9) < 200)) x277000 x277001 x277002 x277003 x277004 x277005 x277006 x277007 x277008 x277009 x277010 x281000 x281001) else (gatelinelaw23_JourneyCounts.j2 k x1 x7 x8 x9 (rd x1 x9) false x277000 x277001 x277002 x277003 x277004 x277005 x277006 x277007 x277008 x277009 x277010 x281000 x281001)) else (none)) else ((gatelinelaw23_gone.f).bind fun t282 => (if t282 = true then (if x277001 = 3 then (some (x8 == (x281001 != 0))) else (if x7 ≤ x277009 then (if x281000 = (wrap64 (x277009 - x7)) then (some (x8 == (x281001 != 0))) else (some false)) else (some false))) else (some false)))
def gatelinelaw23_JourneyCounts.j2 : Nat → List Int → Int → Bool → Int → Int → Bool → Int → Int → Int → Int → Int → Int → Int → Int → Int → Int → Int → Int → Int → Option (Bool)
  | 0, _, _, _, _, _, _, _, _, _, _, _, _, _, _, _, _, _, _, _ => none
  | k + 1, x1, x7, x8, x9, x10, x45, x277000, x277001, x277002, x277003, x277004, x277005, x277006, x277007, x277008, x277009, x277010, x281000, x281001 => if x45 = true then ((journey_Leave.f x277000 x277001 x277002 x277003 x277004 x277005 x277006 x277007 x277008 x277009 x277010 x281000 x281001 (wrap64 (x10 - 100))).bind fun bt284 => (if bt284.2.2.2 = 0 then (gatelinelaw23_JourneyCounts.j3 k x1 x7 x8 x9 (bt284.2.2.1 == 0) x277000 x277001 x277002 x277003 x277004 x277005 x277006 x277007 x277008 x277009 x277010 x281000 x281001 bt284.1 bt284.2.1) else (gatelinelaw23_JourneyCounts.j3 k x1 x7 x8 x9 false x277000 x277001 x277002 x277003 x277004 x277005 x277006 x277007 x277008 x277009 x277010 x281000 x281001 bt284.1 bt284.2.1))) else ((journey_Enter.f x277000 x277001 x277002 x277003 x277004 x277005 x277006 x277007 x277008 x277009 x277010 x281000 x281001 x10).bind fun bt289 => (if bt289.2.2.2 = 0 then (gatelinelaw23_JourneyCounts.j4 k x1 x7 x8 x9 (bt289.2.2.1 == 0) x277000 x277001 x277002 x277003 x277004 x277005 x277006 x277007 x277008 x277009 x277010 x281000 x281001 bt289.1 bt289.2.1) else (gatelinelaw23_JourneyCounts.j4 k x1 x7 x8 x9 false x277000 x277001 x277002 x277003 x277004 x277005 x277006 x277007 x277008 x277009 x277010 x281000 x281001 bt289.1 bt289.2.1)))
def gatelinelaw23_JourneyCounts.j3 : Nat → List Int → Int → Bool → Int → Bool → Int → Int → Int → Int → Int → Int → Int → Int → Int → Int → Int → Int → Int → Int → Int → Option (Bool)
  | 0, _, _, _, _, _, _, _, _, _, _, _, _, _, _, _, _, _, _, _, _ => none
  | k + 1, x1, x7, x8, x9, x60, x277000, x277001, x277002, x277003, x277004, x277005, x277006, x277007, x277008, x277009, x277010, x281000, x281001, x289000, x289001 => if x60 = true then (if x8 = true then (gatelinelaw23_JourneyCounts.l0 k x1 x7 false (wrap64 (x9 + 1)) x277000 x277001 x277002 x277003 x277004 x277005 x277006 x277007 x277008 x277009 x277010 x289000 x289001) else (some false)) else (gatelinelaw23_JourneyCounts.l0 k x1 x7 x8 (wrap64 (x9 + 1)) x277000 x277001 x277002 x277003 x277004 x277005 x277006 x277007 x277008 x277009 x277010 x281000 x281001)
def gatelinelaw23_JourneyCounts.j4 : Nat → List Int → Int → Bool → Int → Bool → Int → Int → Int → Int → Int → Int → Int → Int → Int → Int → Int → Int → Int → Int → Int → Option (Bool)
  | 0, _, _, _, _, _, _, _, _, _, _, _, _, _, _, _, _, _, _, _, _ => none
  | k + 1, x1, x7, x8, x9, x77, x277000, x277001, x277002, x277003, x277004, x277005, x277006, x277007, x277008, x277009, x277010, x281000, x281001, x294000, x294001 => if x77 = true then (if x8 = true then (some false) else (gatelinelaw23_JourneyCounts.l0 k x1 (wrap64 (x7 + 1)) true (wrap64 (x9 + 1)) x277000 x277001 x277002 x277003 x277004 x277005 x277006 x277007 x277008 x277009 x277010 x294000 x294001)) else (gatelinelaw23_JourneyCounts.l0 k x1 x7 x8 (wrap64 (x9 + 1)) x277000 x277001 x277002 x277003 x277004 x277005 x277006 x277007 x277008 x277009 x277010 x281000 x281001)
end
def gatelinelaw23_JourneyCounts.f (k : Nat) (a0_0 : Int) (a0_1 : Int) (a0_2 : Int) (a0_3 : Int) (a0_4 : Int) (a0_5 : Int) (a0_6 : Int) (a0_7 : Int) (a0_8 : Int) (a0_9 : Int) (a0_10 : Int) (l1 : List Int) : Option (Bool) := (journey_New.f a0_0 a0_1 a0_2 a0_3 a0_4 a0_5 a0_6 a0_7 a0_8 a0_9 a0_10).bind fun bt277 => (if (l1.length : Int) > 200 then (gatelinelaw23_JourneyCounts.j0 k l1 true a0_0 a0_1 a0_2 a0_3 a0_4 a0_5 a0_6 a0_7 a0_8 a0_9 a0_10 bt277.1 bt277.2.1) else (gatelinelaw23_JourneyCounts.j0 k l1 (bt277.2.2 != 0) a0_0 a0_1 a0_2 a0_3 a0_4 a0_5 a0_6 a0_7 a0_8 a0_9 a0_10 bt277.1 bt277.2.1))
theorem gatelinelaw23_JourneyCounts.mono_l : ∀ k, (∀ y0 y1 y2 y3 y4 y5 y6 y7 y8 y9 y10 y11 y12 y13 y14, LeO (gatelinelaw23_JourneyCounts.j0 k y0 y1 y2 y3 y4 y5 y6 y7 y8 y9 y10 y11 y12 y13 y14) (gatelinelaw23_JourneyCounts.j0 (k + 1) y0 y1 y2 y3 y4 y5 y6 y7 y8 y9 y10 y11 y12 y13 y14)) ∧ (∀ y0 y1 y2 y3 y4 y5 y6 y7 y8 y9 y10 y11 y12 y13 y14 y15 y16, LeO (gatelinelaw23_JourneyCounts.l0 k y0 y1 y2 y3 y4 y5 y6 y7 y8 y9 y10 y11 y12 y13 y14 y15 y16) (gatelinelaw23_JourneyCounts.l0 (k + 1) y0 y1 y2 y3 y4 y5 y6 y7 y8 y9 y10 y11 y12 y13 y14 y15 y16)) ∧ (∀ y0 y1 y2 y3 y4 y5 y6 y7 y8 y9 y10 y11 y12 y13 y14 y15 y16 y17 y18, LeO (gatelinelaw23_JourneyCounts.j2 k y0 y1 y2 y3 y4 y5 y6 y7 y8 y9 y10 y11 y12 y13 y14 y15 y16 y17 y18) (gatelinelaw23_JourneyCounts.j2 (k + 1) y0 y1 y2 y3 y4 y5 y6 y7 y8 y9 y10 y11 y12 y13 y14 y15 y16 y17 y18)) ∧ (∀ y0 y1 y2 y3 y4 y5 y6 y7 y8 y9 y10 y11 y12 y13 y14 y15 y16 y17 y18 y19, LeO (gatelinelaw23_JourneyCounts.j3 k y0 y1 y2 y3 y4 y5 y6 y7 y8 y9 y10 y11 y12 y13 y14 y15 y16 y17 y18 y19) (gatelinelaw23_JourneyCounts.j3 (k + 1) y0 y1 y2 y3 y4 y5 y6 y7 y8 y9 y10 y11 y12 y13 y14 y15 y16 y17 y18 y19)) ∧ (∀ y0 y1 y2 y3 y4 y5 y6 y7 y8 y9 y10 y11 y12 y13 y14 y15 y16 y17 y18 y19, LeO (gatelinelaw23_JourneyCounts.j4 k y0 y1 y2 y3 y4 y5 y6 y7 y8 y9 y10 y11 y12 y13 y14 y15 y16 y17 y18 y19) (gatelinelaw23_JourneyCounts.j4 (k + 1) y0 y1 y2 y3 y4 y5 y6 y7 y8 y9 y10 y11 y12 y13 y14 y15 y16 y17 y18 y19))
  | 0 => ⟨fun _ _ _ _ _ _ _ _ _ _ _ _ _ _ _ r h => by simp [gatelinelaw23_JourneyCounts.j0] at h, fun _ _ _ _ _ _ _ _ _ _ _ _ _ _ _ _ _ r h => by simp [gatelinelaw23_JourneyCounts.l0] at h, fun _ _ _ _ _ _ _ _ _ _ _ _ _ _ _ _ _ _ _ r h => by simp [gatelinelaw23_JourneyCounts.j2] at h, fun _ _ _ _ _ _ _ _ _ _ _ _ _ _ _ _ _ _ _ _ r h => by simp [gatelinelaw23_JourneyCounts.j3] at h, fun _ _ _ _ _ _ _ _ _ _ _ _ _ _ _ _ _ _ _ _ r h => by simp [gatelinelaw23_JourneyCounts.j4] at h⟩
  | k + 1 => by
    obtain ⟨ih0, ih1, ih2, ih3, ih4⟩ := gatelinelaw23_JourneyCounts.mono_l k
    refine ⟨?_, ?_, ?_, ?_, ?_⟩
    · intro y0 y1 y2 y3 y4 y5 y6 y7 y8 y9 y10 y11 y12 y13 y14
      unfold gatelinelaw23_JourneyCounts.j0
      repeat' first
      | (with_reducible exact ih0 _ _ _ _ _ _ _ _ _ _ _ _ _ _ _)
      | (with_reducible exact ih1 _ _ _ _ _ _ _ _ _ _ _ _ _ _ _ _ _)
      | (with_reducible exact ih2 _ _ _ _ _ _ _ _ _ _ _ _ _ _ _ _ _ _ _)
      | (with_reducible exact ih3 _ _ _ _ _ _ _ _ _ _ _ _ _ _ _ _ _ _ _ _)
      | (with_reducible exact ih4 _ _ _ _ _ _ _ _ _ _ _ _ _ _ _ _ _ _ _ _)
      | (with_reducible exact LeO.refl _)
      | (with_reducible exact LeO.none _)
      | (with_reducible refine LeO.ite ?_ ?_)
      | (with_reducible refine LeO.bind ?_ (fun _ => ?_))
      | exact ih0 _ _ _ _ _ _ _ _ _ _ _ _ _ _ _
      | exact ih1 _ _ _ _ _ _ _ _ _ _ _ _ _ _ _ _ _
      | exact ih2 _ _ _ _ _ _ _ _ _ _ _ _ _ _ _ _ _ _ _
      | exact ih3 _ _ _ _ _ _ _ _ _ _ _ _ _ _ _ _ _ _ _ _
      | exact ih4 _ _ _ _ _ _ _ _ _ _ _ _ _ _ _ _ _ _ _ _
      | exact LeO.none _
      | refine LeO.ite ?_ ?_
      | refine LeO.bind ?_ (fun _ => ?_)
    · intro y0 y1 y2 y3 y4 y5 y6 y7 y8 y9 y10 y11 y12 y13 y14 y15 y16
      unfold gatelinelaw23_JourneyCounts.l0
      repeat' first
      | (with_reducible exact ih0 _ _ _ _ _ _ _ _ _ _ _ _ _ _ _)
      | (with_reducible exact ih1 _ _ _ _ _ _ _ _ _ _ _ _ _ _ _ _ _)
      | (with_reducible exact ih2 _ _ _ _ _ _ _ _ _ _ _ _ _ _ _ _ _ _ _)
      | (with_reducible exact ih3 _ _ _ _ _ _ _ _ _ _ _ _ _ _ _ _ _ _ _ _)
      | (with_reducible exact ih4 _ _ _ _ _ _ _ _ _ _ _ _ _ _ _ _ _ _ _ _)
      | (with_reducible exact LeO.refl _)
      | (with_reducible exact LeO.none _)
      | (with_reducible refine LeO.ite ?_ ?_)
      | (with_reducible refine LeO.bind ?_ (fun _ => ?_))
      | exact ih0 _ _ _ _ _ _ _ _ _ _ _ _ _ _ _
      | exact ih1 _ _ _ _ _ _ _ _ _ _ _ _ _ _ _ _ _
      | exact ih2 _ _ _ _ _ _ _ _ _ _ _ _ _ _ _ _ _ _ _
      | exact ih3 _ _ _ _ _ _ _ _ _ _ _ _ _ _ _ _ _ _ _ _
      | exact ih4 _ _ _ _ _ _ _ _ _ _ _ _ _ _ _ _ _ _ _ _
      | exact LeO.none _
      | refine LeO.ite ?_ ?_
      | refine LeO.bind ?_ (fun _ => ?_)
    · intro y0 y1 y2 y3 y4 y5 y6 y7 y8 y9 y10 y11 y12 y13 y14 y15 y16 y17 y18
      unfold gatelinelaw23_JourneyCounts.j2
      repeat' first
      | (with_reducible exact ih0 _ _ _ _ _ _ _ _ _ _ _ _ _ _ _)
      | (with_reducible exact ih1 _ _ _ _ _ _ _ _ _ _ _ _ _ _ _ _ _)
      | (with_reducible exact ih2 _ _ _ _ _ _ _ _ _ _ _ _ _ _ _ _ _ _ _)
      | (with_reducible exact ih3 _ _ _ _ _ _ _ _ _ _ _ _ _ _ _ _ _ _ _ _)
      | (with_reducible exact ih4 _ _ _ _ _ _ _ _ _ _ _ _ _ _ _ _ _ _ _ _)
      | (with_reducible exact LeO.refl _)
      | (with_reducible exact LeO.none _)
      | (with_reducible refine LeO.ite ?_ ?_)
      | (with_reducible refine LeO.bind ?_ (fun _ => ?_))
      | exact ih0 _ _ _ _ _ _ _ _ _ _ _ _ _ _ _
      | exact ih1 _ _ _ _ _ _ _ _ _ _ _ _ _ _ _ _ _
      | exact ih2 _ _ _ _ _ _ _ _ _ _ _ _ _ _ _ _ _ _ _
      | exact ih3 _ _ _ _ _ _ _ _ _ _ _ _ _ _ _ _ _ _ _ _
      | exact ih4 _ _ _ _ _ _ _ _ _ _ _ _ _ _ _ _ _ _ _ _
      | exact LeO.none _
      | refine LeO.ite ?_ ?_
      | refine LeO.bind ?_ (fun _ => ?_)
    · intro y0 y1 y2 y3 y4 y5 y6 y7 y8 y9 y10 y11 y12 y13 y14 y15 y16 y17 y18 y19
      unfold gatelinelaw23_JourneyCounts.j3
      repeat' first
      | (with_reducible exact ih0 _ _ _ _ _ _ _ _ _ _ _ _ _ _ _)
      | (with_reducible exact ih1 _ _ _ _ _ _ _ _ _ _ _ _ _ _ _ _ _)
      | (with_reducible exact ih2 _ _ _ _ _ _ _ _ _ _ _ _ _ _ _ _ _ _ _)
      | (with_reducible exact ih3 _ _ _ _ _ _ _ _ _ _ _ _ _ _ _ _ _ _ _ _)
      | (with_reducible exact ih4 _ _ _ _ _ _ _ _ _ _ _ _ _ _ _ _ _ _ _ _)
      | (with_reducible exact LeO.refl _)
      | (with_reducible exact LeO.none _)
      | (with_reducible refine LeO.ite ?_ ?_)
      | (with_reducible refine LeO.bind ?_ (fun _ => ?_))
      | exact ih0 _ _ _ _ _ _ _ _ _ _ _ _ _ _ _
      | exact ih1 _ _ _ _ _ _ _ _ _ _ _ _ _ _ _ _ _
      | exact ih2 _ _ _ _ _ _ _ _ _ _ _ _ _ _ _ _ _ _ _
      | exact ih3 _ _ _ _ _ _ _ _ _ _ _ _ _ _ _ _ _ _ _ _
      | exact ih4 _ _ _ _ _ _ _ _ _ _ _ _ _ _ _ _ _ _ _ _
      | exact LeO.none _
      | refine LeO.ite ?_ ?_
      | refine LeO.bind ?_ (fun _ => ?_)
    · intro y0 y1 y2 y3 y4 y5 y6 y7 y8 y9 y10 y11 y12 y13 y14 y15 y16 y17 y18 y19
      unfold gatelinelaw23_JourneyCounts.j4
      repeat' first
      | (with_reducible exact ih0 _ _ _ _ _ _ _ _ _ _ _ _ _ _ _)
      | (with_reducible exact ih1 _ _ _ _ _ _ _ _ _ _ _ _ _ _ _ _ _)
      | (with_reducible exact ih2 _ _ _ _ _ _ _ _ _ _ _ _ _ _ _ _ _ _ _)
      | (with_reducible exact ih3 _ _ _ _ _ _ _ _ _ _ _ _ _ _ _ _ _ _ _ _)
      | (with_reducible exact ih4 _ _ _ _ _ _ _ _ _ _ _ _ _ _ _ _ _ _ _ _)
      | (with_reducible exact LeO.refl _)
      | (with_reducible exact LeO.none _)
      | (with_reducible refine LeO.ite ?_ ?_)
      | (with_reducible refine LeO.bind ?_ (fun _ => ?_))
      | exact ih0 _ _ _ _ _ _ _ _ _ _ _ _ _ _ _
      | exact ih1 _ _ _ _ _ _ _ _ _ _ _ _ _ _ _ _ _
      | exact ih2 _ _ _ _ _ _ _ _ _ _ _ _ _ _ _ _ _ _ _
      | exact ih3 _ _ _ _ _ _ _ _ _ _ _ _ _ _ _ _ _ _ _ _
      | exact ih4 _ _ _ _ _ _ _ _ _ _ _ _ _ _ _ _ _ _ _ _
      | exact LeO.none _
      | refine LeO.ite ?_ ?_
      | refine LeO.bind ?_ (fun _ => ?_)
theorem gatelinelaw23_JourneyCounts.mono : ∀ a0 a1 a2 a3 a4 a5 a6 a7 a8 a9 a10 a11 k, LeO (gatelinelaw23_JourneyCounts.f k a0 a1 a2 a3 a4 a5 a6 a7 a8 a9 a10 a11) (gatelinelaw23_JourneyCounts.f (k + 1) a0 a1 a2 a3 a4 a5 a6 a7 a8 a9 a10 a11) := by
  intro a0 a1 a2 a3 a4 a5 a6 a7 a8 a9 a10 a11 k
  obtain ⟨ih0, ih1, ih2, ih3, ih4⟩ := gatelinelaw23_JourneyCounts.mono_l k
  unfold gatelinelaw23_JourneyCounts.f
  repeat' first
      | (with_reducible exact ih0 _ _ _ _ _ _ _ _ _ _ _ _ _ _ _)
      | (with_reducible exact ih1 _ _ _ _ _ _ _ _ _ _ _ _ _ _ _ _ _)
      | (with_reducible exact ih2 _ _ _ _ _ _ _ _ _ _ _ _ _ _ _ _ _ _ _)
      | (with_reducible exact ih3 _ _ _ _ _ _ _ _ _ _ _ _ _ _ _ _ _ _ _ _)
      | (with_reducible exact ih4 _ _ _ _ _ _ _ _ _ _ _ _ _ _ _ _ _ _ _ _)
      | (with_reducible exact LeO.refl _)
      | (with_reducible exact LeO.none _)
      | (with_reducible refine LeO.ite ?_ ?_)
      | (with_reducible refine LeO.bind ?_ (fun _ => ?_))
      | exact ih0 _ _ _ _ _ _ _ _ _ _ _ _ _ _ _
      | exact ih1 _ _ _ _ _ _ _ _ _ _ _ _ _ _ _ _ _
      | exact ih2 _ _ _ _ _ _ _ _ _ _ _ _ _ _ _ _ _ _ _
      | exact ih3 _ _ _ _ _ _ _ _ _ _ _ _ _ _ _ _ _ _ _ _
      | exact ih4 _ _ _ _ _ _ _ _ _ _ _ _ _ _ _ _ _ _ _ _
      | exact LeO.none _
      | refine LeO.ite ?_ ?_
      | refine LeO.bind ?_ (fun _ => ?_)
set_option maxHeartbeats 8000000 in
set_option maxRecDepth 100000 in
theorem gatelinelaw23_JourneyCounts.calls (k : Nat) (a0_0 : Int) (a0_1 : Int) (a0_2 : Int) (a0_3 : Int) (a0_4 : Int) (a0_5 : Int) (a0_6 : Int) (a0_7 : Int) (a0_8 : Int) (a0_9 : Int) (a0_10 : Int) (A1 : Option Addr) (c1 : Nat) (l1 : List Int) (r : Bool) (w : World) (hr1 : Kd.C (Kd.int .i64) w A1 l1.length l1) (hc1 : l1.length ≤ c1) (h : gatelinelaw23_JourneyCounts.f k a0_0 a0_1 a0_2 a0_3 a0_4 a0_5 a0_6 a0_7 a0_8 a0_9 a0_10 l1 = some r) :
    Calls Try.prog 6 #[.agg #[.int .i64 a0_0, .int .i64 a0_1, .int .i64 a0_2, .int .i64 a0_3, .int .i64 a0_4, .int .i64 a0_5, .int .i64 a0_6, .int .i64 a0_7, .int .i64 a0_8, .int .i64 a0_9, .int .i64 a0_10], .slice A1 l1.length c1] w fun e w' => e = .returned (.bool r) ∧ Below w.heap.size w w' := by
  have hu23 := Try.underlying23
  have hu25 := Try.underlying25
  have HR1 := Aside0.mk hr1
  have HC1 := Aside0.mk hc1
  clear hr1 hc1
  have HB := Aside0.mk (Below.refl w.heap.size w)
  have H : ((journey_New.f a0_0 a0_1 a0_2 a0_3 a0_4 a0_5 a0_6 a0_7 a0_8 a0_9 a0_10).bind fun bt277 => (if (l1.length : Int) > 200 then (gatelinelaw23_JourneyCounts.j0 k l1 true a0_0 a0_1 a0_2 a0_3 a0_4 a0_5 a0_6 a0_7 a0_8 a0_9 a0_10 bt277.1 bt277.2.1) else (gatelinelaw23_JourneyCounts.j0 k l1 (bt277.2.2 != 0) a0_0 a0_1 a0_2 a0_3 a0_4 a0_5 a0_6 a0_7 a0_8 a0_9 a0_10 bt277.1 bt277.2.1))) = some r := h
  clear h
  replace H := Option.bind_eq_some_iff.mp H
  obtain ⟨⟨t277, t278, t279⟩, A30, H⟩ := H
  replace H : (if (l1.length : Int) > 200 then (gatelinelaw23_JourneyCounts.j0 k l1 true a0_0 a0_1 a0_2 a0_3 a0_4 a0_5 a0_6 a0_7 a0_8 a0_9 a0_10 t277 t278) else (gatelinelaw23_JourneyCounts.j0 k l1 (t279 != 0) a0_0 a0_1 a0_2 a0_3 a0_4 a0_5 a0_6 a0_7 a0_8 a0_9 a0_10 t277 t278)) = some r := H
  have A3 := Aside0.mk A30
  clear A30
  have HC4 := Aside0.mk H
  clear H
  go_enter Try.func6, Try.ntmps6
  go_upto_region 2 with (first | ((with_reducible refine gate_dst (N := 2) rfl ?_); refine box_event ?hg (N := 2) ?hd (cs := #[.int .i64 a0_0, .int .i64 a0_1, .int .i64 a0_2, .int .i64 a0_3, .int .i64 a0_4, .int .i64 a0_5, .int .i64 a0_6, .int .i64 a0_7, .int .i64 a0_8, .int .i64 a0_9, .int .i64 a0_10]) (t := 23) ?hr ?_; (case hd => rfl); (case hg => rfl); (case hr => first | (go_simp; done) | (go_simp; rfl)); intro gb276 hg w5 hbox hb; have n0_ := Aside0.mk (below_step (by repeat (first | (with_reducible first | exact HB.out | apply below_alloc | apply pw_below_drewN | apply below_drew1) | exact HB.out)) hb); have n1_ := Aside0.mk (hbox); have n2_ := Aside0.mk ((by rw [hg]; exact (below_size (by repeat (first | (with_reducible first | exact HB.out | apply below_alloc | apply pw_below_drewN | apply below_drew1) | exact HB.out))) : w.heap.size ≤ gb276)); have n3_ := Aside0.mk ((by rw [hg]; exact (below_size (by repeat (first | (with_reducible first | exact HB.out | apply below_alloc | apply pw_below_drewN | apply below_drew1) | exact HB.out))) : w.heap.size ≤ gb276)); clear HB; have HB := n0_; have BK276 := n1_; have GW276 := n2_; have GE276 := n3_; clear n0_ n1_ n2_ n3_; clear hb hbox hg; have hcz6_0 : w5.cell? ⟨gb276, 0, none⟩ = some (.int .i64 a0_0) := (blk_cell BK276.out 0).trans rfl; have hcz6_1 : w5.cell? ⟨gb276, 1, none⟩ = some (.int .i64 a0_1) := (blk_cell BK276.out 1).trans rfl; have hcz6_2 : w5.cell? ⟨gb276, 2, none⟩ = some (.int .i64 a0_2) := (blk_cell BK276.out 2).trans rfl; have hcz6_3 : w5.cell? ⟨gb276, 3, none⟩ = some (.int .i64 a0_3) := (blk_cell BK276.out 3).trans rfl; have hcz6_4 : w5.cell? ⟨gb276, 4, none⟩ = some (.int .i64 a0_4) := (blk_cell BK276.out 4).trans rfl; have hcz6_5 : w5.cell? ⟨gb276, 5, none⟩ = some (.int .i64 a0_5) := (blk_cell BK276.out 5).trans rfl; have hcz6_6 : w5.cell? ⟨gb276, 6, none⟩ = some (.int .i64 a0_6) := (blk_cell BK276.out 6).trans rfl; have hcz6_7 : w5.cell? ⟨gb276, 7, none⟩ = some (.int .i64 a0_7) := (blk_cell BK276.out 7).trans rfl; have hcz6_8 : w5.cell? ⟨gb276, 8, none⟩ = some (.int .i64 a0_8) := (blk_cell BK276.out 8).trans rfl; have hcz6_9 : w5.cell? ⟨gb276, 9, none⟩ = some (.int .i64 a0_9) := (blk_cell BK276.out 9).trans rfl; have hcz6_10 : w5.cell? ⟨gb276, 10, none⟩ = some (.int .i64 a0_10) := (blk_cell BK276.out 10).trans rfl; have hfz6_0 := blk_frozen BK276.out 0; have hfz6_1 := blk_frozen BK276.out 1; have hfz6_2 := blk_frozen BK276.out 2; have hfz6_3 := blk_frozen BK276.out 3; have hfz6_4 := blk_frozen BK276.out 4; have hfz6_5 := blk_frozen BK276.out 5; have hfz6_6 := blk_frozen BK276.out 6; have hfz6_7 := blk_frozen BK276.out 7; have hfz6_8 := blk_frozen BK276.out 8; have hfz6_9 := blk_frozen BK276.out 9; have hfz6_10 := blk_frozen BK276.out 10) | ((with_reducible refine gate_callee (f := 20) rfl ?_); refine goesL_ (some 19) rfl rfl Try.func20 (by kernel_rfl) rfl #[.agg #[.int .i64 a0_0, .int .i64 a0_1, .int .i64 a0_2, .int .i64 a0_3, .int .i64 a0_4, .int .i64 a0_5, .int .i64 a0_6, .int .i64 a0_7, .int .i64 a0_8, .int .i64 a0_9, .int .i64 a0_10]] rfl (by (try simp only [List.map_toArray, List.map_cons, List.map_nil]); first | done | rfl | (simp only [List.length_drop, List.length_take]; rfl)) ?_; (with_reducible refine (journey_New.calls a0_0 a0_1 a0_2 a0_3 a0_4 a0_5 a0_6 a0_7 a0_8 a0_9 a0_10 t277 t278 t279 _ A3.out).mono ?_); rintro e w7 ⟨rfl, hb⟩; refine ⟨_, rfl, ?_⟩; have n0_ := Aside0.mk (blk_below (g := gb276) (o := .cells #[.int .i64 a0_0, .int .i64 a0_1, .int .i64 a0_2, .int .i64 a0_3, .int .i64 a0_4, .int .i64 a0_5, .int .i64 a0_6, .int .i64 a0_7, .int .i64 a0_8, .int .i64 a0_9, .int .i64 a0_10] 23 (0, 0)) (by (with_reducible repeat (first | refine blk_drewN ?_ _ | refine blk_drew ?_ | refine blk_alloc ?_ _)); exact BK276.out) hb); have n1_ := Aside0.mk (below_step (by repeat (first | (with_reducible first | exact HB.out | apply below_alloc | apply pw_below_drewN | apply below_drew1 | refine below_set ?_ GE276.out) | exact HB.out)) hb); clear BK276; clear HB; have BK276 := n0_; have HB := n1_; clear n0_ n1_; (try clear hb); (try clear hb2); (try clear hk); (try clear hi); (try clear A3)) | ((with_reducible refine gate_dst (N := 5) rfl ?_); refine box_event ?hg (N := 5) ?hd (cs := #[.int .i64 0, .int .i64 0]) (t := 25) ?hr ?_; (case hd => rfl); (case hg => rfl); (case hr => first | (go_simp; done) | (go_simp; rfl)); intro gb280 hg w8 hbox hb; have n0_ := Aside0.mk (blk_below (g := gb276) (o := .cells #[.int .i64 a0_0, .int .i64 a0_1, .int .i64 a0_2, .int .i64 a0_3, .int .i64 a0_4, .int .i64 a0_5, .int .i64 a0_6, .int .i64 a0_7, .int .i64 a0_8, .int .i64 a0_9, .int .i64 a0_10] 23 (0, 0)) (by (with_reducible repeat (first | refine blk_drewN ?_ _ | refine blk_drew ?_ | refine blk_alloc ?_ _)); exact BK276.out) hb); have n1_ := Aside0.mk (below_step (by repeat (first | (with_reducible first | exact HB.out | apply below_alloc | apply pw_below_drewN | apply below_drew1 | refine below_set ?_ GE276.out) | exact HB.out)) hb); have n2_ := Aside0.mk (hbox); have n3_ := Aside0.mk ((by rw [hg]; exact (below_size (by repeat (first | (with_reducible first | exact HB.out | apply below_alloc | apply pw_below_drewN | apply below_drew1 | refine below_set ?_ GE276.out) | exact HB.out))) : w.heap.size ≤ gb280)); have n4_ := Aside0.mk ((by rw [hg]; exact (below_size (by repeat (first | (with_reducible first | exact HB.out | apply below_alloc | apply pw_below_drewN | apply below_drew1 | refine below_set ?_ GE276.out) | exact HB.out))) : w.heap.size ≤ gb280)); have n5_ := Aside0.mk ((by rw [hg]; exact Nat.ne_of_lt (blk_lt (g := gb276) (o := .cells #[.int .i64 a0_0, .int .i64 a0_1, .int .i64 a0_2, .int .i64 a0_3, .int .i64 a0_4, .int .i64 a0_5, .int .i64 a0_6, .int .i64 a0_7, .int .i64 a0_8, .int .i64 a0_9, .int .i64 a0_10] 23 (0, 0)) (by (with_reducible repeat (first | refine blk_drewN ?_ _ | refine blk_drew ?_ | refine blk_alloc ?_ _)); exact BK276.out)) : gb276 ≠ gb280)); have n6_ := Aside0.mk ((by rw [hg]; exact Nat.ne_of_gt (blk_lt (g := gb276) (o := .cells #[.int .i64 a0_0, .int .i64 a0_1, .int .i64 a0_2, .int .i64 a0_3, .int .i64 a0_4, .int .i64 a0_5, .int .i64 a0_6, .int .i64 a0_7, .int .i64 a0_8, .int .i64 a0_9, .int .i64 a0_10] 23 (0, 0)) (by (with_reducible repeat (first | refine blk_drewN ?_ _ | refine blk_drew ?_ | refine blk_alloc ?_ _)); exact BK276.out)) : gb280 ≠ gb276)); clear BK276; clear HB; have BK276 := n0_; have HB := n1_; have BK280 := n2_; have GW280 := n3_; have GE280 := n4_; have NB276_280 := n5_; have NB280_276 := n6_; clear n0_ n1_ n2_ n3_ n4_ n5_ n6_; clear hb hbox hg; have hnb9 := NB280_276.out; have hnc9 := NB276_280.out; have hcz10_0 : w8.cell? ⟨gb280, 0, none⟩ = some (.int .i64 0) := (blk_cell BK280.out 0).trans rfl; have hcz10_1 : w8.cell? ⟨gb280, 1, none⟩ = some (.int .i64 0) := (blk_cell BK280.out 1).trans rfl; have hfz10_0 := blk_frozen BK280.out 0; have hfz10_1 := blk_frozen BK280.out 1))
  (try simp only [Act.put, List.setIfInBounds_toArray, List.set_cons_zero, List.set_cons_succ])
  go_cut [28] (fun v28 wc => ∃ (kq : Nat) (x28_3 : Bool), v28 = .bool x28_3 ∧ Aside0 (gatelinelaw23_JourneyCounts.j0 kq l1 x28_3 a0_0 a0_1 a0_2 a0_3 a0_4 a0_5 a0_6 a0_7 a0_8 a0_9 a0_10 t277 t278 = some r) ∧ Aside0 (kq ≤ k) ∧ Aside0 (wc.heap[gb276]? = some (.cells #[.int .i64 a0_0, .int .i64 a0_1, .int .i64 a0_2, .int .i64 a0_3, .int .i64 a0_4, .int .i64 a0_5, .int .i64 a0_6, .int .i64 a0_7, .int .i64 a0_8, .int .i64 a0_9, .int .i64 a0_10] 23 (0, 0))) ∧ Aside0 (wc.heap[gb280]? = some (.cells #[.int .i64 t277, .int .i64 t278] 25 (0, 0))) ∧ Aside0 (Below w.heap.size w wc))
  case first =>
    have H := HC4.out
    clear HC4
    by_cases c11 : (l1.length : Int) > 200
    · rw [if_pos c11] at H
      have c11b0 : decide (200 < (l1.length : Int)) = true := decide_eq_true c11
      have c11b1 : decide (200 < l1.length) = true := decide_eq_true (by omega)
      clear c11
      (first | rw [c11b0] | (simp only [i64_w, i32_w]; rw [c11b0]) | skip)
      have H' := Aside0.mk H
      clear H
      go_wp2
      go_meet
      case rel => exact ⟨_, (true), (by first | rfl | (simp; done) | (simp [*]; done)), H', ⟨by first | omega | exact Nat.le_refl _⟩, ⟨by (with_reducible repeat (first | refine blk_drewN ?_ _ | refine blk_drew ?_ | refine blk_alloc ?_ _)); refine blk_far ?_ NB276_280.out _; (with_reducible repeat (first | refine blk_drewN ?_ _ | refine blk_drew ?_ | refine blk_alloc ?_ _)); refine blk_far ?_ NB276_280.out _; (with_reducible repeat (first | refine blk_drewN ?_ _ | refine blk_drew ?_ | refine blk_alloc ?_ _)); exact BK276.out⟩, ⟨by (with_reducible repeat (first | refine blk_drewN ?_ _ | refine blk_drew ?_ | refine blk_alloc ?_ _)); refine blk_put (cs := #[.int .i64 t277, .int .i64 0]) ?_ 1 _ rfl; (with_reducible repeat (first | refine blk_drewN ?_ _ | refine blk_drew ?_ | refine blk_alloc ?_ _)); refine blk_put (cs := #[.int .i64 0, .int .i64 0]) ?_ 0 _ rfl; (with_reducible repeat (first | refine blk_drewN ?_ _ | refine blk_drew ?_ | refine blk_alloc ?_ _)); exact BK280.out⟩, ⟨by repeat (first | (with_reducible first | exact HB.out | apply below_alloc | apply pw_below_drewN | apply below_drew1 | refine below_set ?_ GE276.out | refine below_set ?_ GE280.out) | exact HB.out)⟩⟩
    · rw [if_neg c11] at H
      have c11b0 : decide (200 < (l1.length : Int)) = false := decide_eq_false c11
      have c11b1 : decide (200 < l1.length) = false := decide_eq_false (by omega)
      clear c11
      (first | rw [c11b0] | (simp only [i64_w, i32_w]; rw [c11b0]) | skip)
      have H' := Aside0.mk H
      clear H
      go_wp2
      go_meet
      case rel => exact ⟨_, ((t279 != 0)), (by first | rfl | (simp; done) | (simp [*]; done)), H', ⟨by first | omega | exact Nat.le_refl _⟩, ⟨by (with_reducible repeat (first | refine blk_drewN ?_ _ | refine blk_drew ?_ | refine blk_alloc ?_ _)); refine blk_far ?_ NB276_280.out _; (with_reducible repeat (first | refine blk_drewN ?_ _ | refine blk_drew ?_ | refine blk_alloc ?_ _)); refine blk_far ?_ NB276_280.out _; (with_reducible repeat (first | refine blk_drewN ?_ _ | refine blk_drew ?_ | refine blk_alloc ?_ _)); exact BK276.out⟩, ⟨by (with_reducible repeat (first | refine blk_drewN ?_ _ | refine blk_drew ?_ | refine blk_alloc ?_ _)); refine blk_put (cs := #[.int .i64 t277, .int .i64 0]) ?_ 1 _ rfl; (with_reducible repeat (first | refine blk_drewN ?_ _ | refine blk_drew ?_ | refine blk_alloc ?_ _)); refine blk_put (cs := #[.int .i64 0, .int .i64 0]) ?_ 0 _ rfl; (with_reducible repeat (first | refine blk_drewN ?_ _ | refine blk_drew ?_ | refine blk_alloc ?_ _)); exact BK280.out⟩, ⟨by repeat (first | (with_reducible first | exact HB.out | apply below_alloc | apply pw_below_drewN | apply below_drew1 | refine below_set ?_ GE276.out | refine below_set ?_ GE280.out) | exact HB.out)⟩⟩
  case rest =>
    clear HC4
    try clear c1
    try clear c2
    try clear p2
    try clear c6
    try clear c9
    try clear c11
    try clear c11b0
    try clear c11b1
    try clear hcz10_0
    try clear hcz10_1
    try clear hcz6_0
    try clear hcz6_1
    try clear hcz6_10
    try clear hcz6_2
    try clear hcz6_3
    try clear hcz6_4
    try clear hcz6_5
    try clear hcz6_6
    try clear hcz6_7
    try clear hcz6_8
    try clear hcz6_9
    try clear hfz10_0
    try clear hfz10_1
    try clear hfz6_0
    try clear hfz6_1
    try clear hfz6_10
    try clear hfz6_2
    try clear hfz6_3
    try clear hfz6_4
    try clear hfz6_5
    try clear hfz6_6
    try clear hfz6_7
    try clear hfz6_8
    try clear hfz6_9
    obtain ⟨kq, x28_3, rfl, HA, HJ3, BK276, BK280, HB⟩ := hcut
    cases kq with
    | zero => exact absurd HA.out (by simp [gatelinelaw23_JourneyCounts.j0])
    | succ kj3 =>
      have H := HA.out
      clear HA
      simp only [gatelinelaw23_JourneyCounts.j0] at H
      by_cases c12 : x28_3 = true
      · subst c12
        have H1 : ((gatelinelaw23_gone.f).bind fun t281 => (some t281)) = some r := by rw [if_pos rfl] at H; exact H
        clear H
        have H := H1
        clear H1
        replace H := Option.bind_eq_some_iff.mp H
        obtain ⟨t281, A130, H⟩ := H
        replace H : (some t281) = some r := H
        have A13 := Aside0.mk A130
        clear A130
        obtain rfl := Option.some.inj H
        go_wp2_with (first | ((with_reducible refine gate_callee (f := 19) rfl ?_); refine goesL_ (some 29) rfl rfl Try.func19 (by kernel_rfl) rfl #[] rfl (by (try simp only [List.map_toArray, List.map_cons, List.map_nil]); first | done | rfl | (simp only [List.length_drop, List.length_take]; rfl)) ?_; (with_reducible refine (gatelinelaw23_gone.calls  t281 _ A13.out).mono ?_); rintro e w14 ⟨rfl, hb⟩; refine ⟨_, rfl, ?_⟩; have n0_ := Aside0.mk (blk_below (g := gb276) (o := .cells #[.int .i64 a0_0, .int .i64 a0_1, .int .i64 a0_2, .int .i64 a0_3, .int .i64 a0_4, .int .i64 a0_5, .int .i64 a0_6, .int .i64 a0_7, .int .i64 a0_8, .int .i64 a0_9, .int .i64 a0_10] 23 (0, 0)) (by (with_reducible repeat (first | refine blk_drewN ?_ _ | refine blk_drew ?_ | refine blk_alloc ?_ _)); exact BK276.out) hb); have n1_ := Aside0.mk (blk_below (g := gb280) (o := .cells #[.int .i64 t277, .int .i64 t278] 25 (0, 0)) (by (with_reducible repeat (first | refine blk_drewN ?_ _ | refine blk_drew ?_ | refine blk_alloc ?_ _)); exact BK280.out) hb); have n2_ := Aside0.mk (below_step (by repeat (first | (with_reducible first | exact HB.out | apply below_alloc | apply pw_below_drewN | apply below_drew1 | refine below_set ?_ GE276.out | refine below_set ?_ GE280.out) | exact HB.out)) hb); clear BK276; clear BK280; clear HB; have BK276 := n0_; have BK280 := n1_; have HB := n2_; clear n0_ n1_ n2_; (try clear hb); (try clear hb2); (try clear hk); (try clear hi); (try clear A13)))
        go_ret
        exact ⟨by first | rfl | (simp [errW_none, errW_some] <;> rfl) | (simp [*, errW_none, errW_some] <;> rfl), by repeat (first | (with_reducible first | exact HB.out | apply below_alloc | apply pw_below_drewN | apply below_drew1 | refine below_set ?_ GE276.out | refine below_set ?_ GE280.out) | exact HB.out)⟩
      · replace c12 := Bool.eq_false_iff.mpr c12
        subst c12
        have H1 : (gatelinelaw23_JourneyCounts.l0 kj3 l1 0 false 0 a0_0 a0_1 a0_2 a0_3 a0_4 a0_5 a0_6 a0_7 a0_8 a0_9 a0_10 t277 t278) = some r := by rw [if_neg (show ¬ (false = true) by decide)] at H; exact H
        clear H
        have H := H1
        clear H1
        have H' := Aside0.mk H
        clear H
        go_wp2
        go_loopg [7, 8, 9] kj3 (fun kq v7 v8 v9 w' => ∃ (x7_2 : Int) (x8_2 : Bool) (x9_2 : Int) (x281000_2 : Int) (x281001_2 : Int), v7 = .int .i64 x7_2 ∧ v8 = .bool x8_2 ∧ v9 = .int .i64 x9_2 ∧ Aside0 (gatelinelaw23_JourneyCounts.l0 kq l1 x7_2 x8_2 x9_2 a0_0 a0_1 a0_2 a0_3 a0_4 a0_5 a0_6 a0_7 a0_8 a0_9 a0_10 x281000_2 x281001_2 = some r) ∧ Aside0 (kq ≤ kj3) ∧ Aside0 (w'.heap[gb276]? = some (.cells #[.int .i64 a0_0, .int .i64 a0_1, .int .i64 a0_2, .int .i64 a0_3, .int .i64 a0_4, .int .i64 a0_5, .int .i64 a0_6, .int .i64 a0_7, .int .i64 a0_8, .int .i64 a0_9, .int .i64 a0_10] 23 (0, 0))) ∧ Aside0 (w'.heap[gb280]? = some (.cells #[.int .i64 x281000_2, .int .i64 x281001_2] 25 (0, 0))) ∧ Aside0 (Below w.heap.size w w'))
        case atStart => exact ⟨(0), (false), (0), (t277), (t278), (by first | rfl | (simp; done) | (simp [*]; done)), (by first | rfl | (simp; done) | (simp [*]; done)), (by first | rfl | (simp; done) | (simp [*]; done)), H', ⟨Nat.le_refl _⟩, ⟨by (with_reducible repeat (first | refine blk_drewN ?_ _ | refine blk_drew ?_ | refine blk_alloc ?_ _)); exact BK276.out⟩, ⟨by (with_reducible repeat (first | refine blk_drewN ?_ _ | refine blk_drew ?_ | refine blk_alloc ?_ _)); exact BK280.out⟩, ⟨by repeat (first | (with_reducible first | exact HB.out | apply below_alloc | apply pw_below_drewN | apply below_drew1 | refine below_set ?_ GE276.out | refine below_set ?_ GE280.out) | exact HB.out)⟩⟩
        case round =>
          clear H'
          try clear c1
          try clear c2
          try clear p2
          try clear c6
          try clear c9
          try clear c11
          try clear c11b0
          try clear c11b1
          try clear c12
          try clear hcz10_0
          try clear hcz10_1
          try clear hcz6_0
          try clear hcz6_1
          try clear hcz6_10
          try clear hcz6_2
          try clear hcz6_3
          try clear hcz6_4
          try clear hcz6_5
          try clear hcz6_6
          try clear hcz6_7
          try clear hcz6_8
          try clear hcz6_9
          try clear hfz10_0
          try clear hfz10_1
          try clear hfz6_0
          try clear hfz6_1
          try clear hfz6_10
          try clear hfz6_2
          try clear hfz6_3
          try clear hfz6_4
          try clear hfz6_5
          try clear hfz6_6
          try clear hfz6_7
          try clear hfz6_8
          try clear hfz6_9
          try clear p2
          obtain ⟨x7_2, x8_2, x9_2, x281000_2, x281001_2, rfl, rfl, rfl, HA, HK2, BK276, BK280, HB⟩ := hrel
          cases gk with
          | zero => exact absurd HA.out (by simp [gatelinelaw23_JourneyCounts.l0])
          | succ k2 =>
            have H := HA.out
            clear HA
            simp only [gatelinelaw23_JourneyCounts.l0] at H
            by_cases c15 : x9_2 < (l1.length : Int)
            · rw [if_pos c15] at H
              have c15b0 : decide (x9_2 < (l1.length : Int)) = true := decide_eq_true c15
              clear c15
              by_cases c16 : 0 ≤ x9_2
              · rw [if_pos c16] at H
                have c16b0 : decide (0 ≤ x9_2) = true := decide_eq_true c16
                clear c16
                have HC17 := Aside0.mk H
                clear H
                have p283 : 0 ≤ (x9_2 : Int) := of_decide_eq_true (by first | (with_reducible assumption) | assumption)
                have q283 : x9_2 < (l1.length : Int) := of_decide_eq_true (by first | (with_reducible assumption) | assumption)
                obtain ⟨ad283, e283, hx283_0⟩ := Kd.at_int HR1.out x9_2 p283 q283
                cases e283
                replace hx283_0 := (HB.out.cell (World.block_lt_of_cell? w _ hx283_0)).trans hx283_0
                replace p283 := eq_true p283
                replace q283 := eq_true q283
                go_upto_region 10 with (fail)
                go_cut [45] (fun v45 wc => ∃ (kq : Nat) (x45_16 : Bool), v45 = .bool x45_16 ∧ Aside0 (gatelinelaw23_JourneyCounts.j2 kq l1 x7_2 x8_2 x9_2 (rd l1 x9_2) x45_16 a0_0 a0_1 a0_2 a0_3 a0_4 a0_5 a0_6 a0_7 a0_8 a0_9 a0_10 x281000_2 x281001_2 = some r) ∧ Aside0 (kq ≤ k2) ∧ Aside0 (wc.heap[gb276]? = some (.cells #[.int .i64 a0_0, .int .i64 a0_1, .int .i64 a0_2, .int .i64 a0_3, .int .i64 a0_4, .int .i64 a0_5, .int .i64 a0_6, .int .i64 a0_7, .int .i64 a0_8, .int .i64 a0_9, .int .i64 a0_10] 23 (0, 0))) ∧ Aside0 (wc.heap[gb280]? = some (.cells #[.int .i64 x281000_2, .int .i64 x281001_2] 25 (0, 0))) ∧ Aside0 (Below w.heap.size w wc))
                case first =>
                  have H := HC17.out
                  clear HC17
                  by_cases c18 : (rd l1 x9_2) ≥ 100
                  · rw [if_pos c18] at H
                    have c18b0 : decide (100 ≤ (rd l1 x9_2)) = true := decide_eq_true c18
                    clear c18
                    (first | rw [c18b0] | (simp only [i64_w, i32_w]; rw [c18b0]) | skip)
                    have H' := Aside0.mk H
                    clear H
                    go_wp2
                    go_meet
                    case rel => exact ⟨_, (decide ((rd l1 x9_2) < 200)), (by first | rfl | (simp; done) | (simp [*]; done)), H', ⟨by have := HJ3.out; have := HK2.out; first | omega | exact Nat.le_refl _⟩, ⟨by (with_reducible repeat (first | refine blk_drewN ?_ _ | refine blk_drew ?_ | refine blk_alloc ?_ _)); exact BK276.out⟩, ⟨by (with_reducible repeat (first | refine blk_drewN ?_ _ | refine blk_drew ?_ | refine blk_alloc ?_ _)); exact BK280.out⟩, ⟨by repeat (first | (with_reducible first | exact HB.out | apply below_alloc | apply pw_below_drewN | apply below_drew1 | refine below_set ?_ GE276.out | refine below_set ?_ GE280.out) | exact HB.out)⟩⟩
                  · rw [if_neg c18] at H
                    have c18b0 : decide (100 ≤ (rd l1 x9_2)) = false := decide_eq_false c18
                    clear c18
                    (first | rw [c18b0] | (simp only [i64_w, i32_w]; rw [c18b0]) | skip)
                    have H' := Aside0.mk H
                    clear H
                    go_wp2
                    go_meet
                    case rel => exact ⟨_, (false), (by first | rfl | (simp; done) | (simp [*]; done)), H', ⟨by have := HJ3.out; have := HK2.out; first | omega | exact Nat.le_refl _⟩, ⟨by (with_reducible repeat (first | refine blk_drewN ?_ _ | refine blk_drew ?_ | refine blk_alloc ?_ _)); exact BK276.out⟩, ⟨by (with_reducible repeat (first | refine blk_drewN ?_ _ | refine blk_drew ?_ | refine blk_alloc ?_ _)); exact BK280.out⟩, ⟨by repeat (first | (with_reducible first | exact HB.out | apply below_alloc | apply pw_below_drewN | apply below_drew1 | refine below_set ?_ GE276.out | refine below_set ?_ GE280.out) | exact HB.out)⟩⟩
                case rest =>
                  clear HC17
                  try clear c1
                  try clear c2
                  try clear p2
                  try clear q2
                  try clear hx2
                  try clear c6
                  try clear c9
                  try clear c11
                  try clear c11b0
                  try clear c11b1
                  try clear c12
                  try clear c15
                  try clear c15b0
                  try clear c16
                  try clear c16b0
                  try clear c18
                  try clear c18b0
                  try clear hcz10_0
                  try clear hcz10_1
                  try clear hcz6_0
                  try clear hcz6_1
                  try clear hcz6_10
                  try clear hcz6_2
                  try clear hcz6_3
                  try clear hcz6_4
                  try clear hcz6_5
                  try clear hcz6_6
                  try clear hcz6_7
                  try clear hcz6_8
                  try clear hcz6_9
                  try clear hfz10_0
                  try clear hfz10_1
                  try clear hfz6_0
                  try clear hfz6_1
                  try clear hfz6_10
                  try clear hfz6_2
                  try clear hfz6_3
                  try clear hfz6_4
                  try clear hfz6_5
                  try clear hfz6_6
                  try clear hfz6_7
                  try clear hfz6_8
                  try clear hfz6_9
                  try clear hx283_0
                  try clear p2
                  try clear p283
                  try clear q283
                  obtain ⟨kq, x45_16, rfl, HA, HJ16, BK276, BK280, HB⟩ := hcut
                  cases kq with
                  | zero => exact absurd HA.out (by simp [gatelinelaw23_JourneyCounts.j2])
                  | succ kj16 =>
                    have H := HA.out
                    clear HA
                    simp only [gatelinelaw23_JourneyCounts.j2] at H
                    by_cases c19 : x45_16 = true
                    · subst c19
                      have H1 : ((journey_Leave.f a0_0 a0_1 a0_2 a0_3 a0_4 a0_5 a0_6 a0_7 a0_8 a0_9 a0_10 x281000_2 x281001_2 (wrap64 ((rd l1 x9_2) - 100))).bind fun bt284 => (if bt284.2.2.2 = 0 then (gatelinelaw23_JourneyCounts.j3 kj16 l1 x7_2 x8_2 x9_2 (bt284.2.2.1 == 0) a0_0 a0_1 a0_2 a0_3 a0_4 a0_5 a0_6 a0_7 a0_8 a0_9 a0_10 x281000_2 x281001_2 bt284.1 bt284.2.1) else (gatelinelaw23_JourneyCounts.j3 kj16 l1 x7_2 x8_2 x9_2 false a0_0 a0_1 a0_2 a0_3 a0_4 a0_5 a0_6 a0_7 a0_8 a0_9 a0_10 x281000_2 x281001_2 bt284.1 bt284.2.1))) = some r := by rw [if_pos rfl] at H; exact H
                      clear H
                      have H := H1
                      clear H1
                      replace H := Option.bind_eq_some_iff.mp H
                      obtain ⟨⟨t284, t285, t286, t287⟩, A200, H⟩ := H
                      replace H : (if t287 = 0 then (gatelinelaw23_JourneyCounts.j3 kj16 l1 x7_2 x8_2 x9_2 (t286 == 0) a0_0 a0_1 a0_2 a0_3 a0_4 a0_5 a0_6 a0_7 a0_8 a0_9 a0_10 x281000_2 x281001_2 t284 t285) else (gatelinelaw23_JourneyCounts.j3 kj16 l1 x7_2 x8_2 x9_2 false a0_0 a0_1 a0_2 a0_3 a0_4 a0_5 a0_6 a0_7 a0_8 a0_9 a0_10 x281000_2 x281001_2 t284 t285)) = some r := H
                      have A20 := Aside0.mk A200
                      clear A200
                      have HC21 := Aside0.mk H
                      clear H
                      have hnb22 := NB276_280.out
                      have hnc22 := NB280_276.out
                      have hcz23_0 : wc.cell? ⟨gb276, 0, none⟩ = some (.int .i64 a0_0) := (blk_cell BK276.out 0).trans rfl
                      have hcz23_1 : wc.cell? ⟨gb276, 1, none⟩ = some (.int .i64 a0_1) := (blk_cell BK276.out 1).trans rfl
                      have hcz23_2 : wc.cell? ⟨gb276, 2, none⟩ = some (.int .i64 a0_2) := (blk_cell BK276.out 2).trans rfl
                      have hcz23_3 : wc.cell? ⟨gb276, 3, none⟩ = some (.int .i64 a0_3) := (blk_cell BK276.out 3).trans rfl
                      have hcz23_4 : wc.cell? ⟨gb276, 4, none⟩ = some (.int .i64 a0_4) := (blk_cell BK276.out 4).trans rfl
                      have hcz23_5 : wc.cell? ⟨gb276, 5, none⟩ = some (.int .i64 a0_5) := (blk_cell BK276.out 5).trans rfl
                      have hcz23_6 : wc.cell? ⟨gb276, 6, none⟩ = some (.int .i64 a0_6) := (blk_cell BK276.out 6).trans rfl
                      have hcz23_7 : wc.cell? ⟨gb276, 7, none⟩ = some (.int .i64 a0_7) := (blk_cell BK276.out 7).trans rfl
                      have hcz23_8 : wc.cell? ⟨gb276, 8, none⟩ = some (.int .i64 a0_8) := (blk_cell BK276.out 8).trans rfl
                      have hcz23_9 : wc.cell? ⟨gb276, 9, none⟩ = some (.int .i64 a0_9) := (blk_cell BK276.out 9).trans rfl
                      have hcz23_10 : wc.cell? ⟨gb276, 10, none⟩ = some (.int .i64 a0_10) := (blk_cell BK276.out 10).trans rfl
                      have hfz23_0 := blk_frozen BK276.out 0
                      have hfz23_1 := blk_frozen BK276.out 1
                      have hfz23_2 := blk_frozen BK276.out 2
                      have hfz23_3 := blk_frozen BK276.out 3
                      have hfz23_4 := blk_frozen BK276.out 4
                      have hfz23_5 := blk_frozen BK276.out 5
                      have hfz23_6 := blk_frozen BK276.out 6
                      have hfz23_7 := blk_frozen BK276.out 7
                      have hfz23_8 := blk_frozen BK276.out 8
                      have hfz23_9 := blk_frozen BK276.out 9
                      have hfz23_10 := blk_frozen BK276.out 10
                      have hcz24_0 : wc.cell? ⟨gb280, 0, none⟩ = some (.int .i64 x281000_2) := (blk_cell BK280.out 0).trans rfl
                      have hcz24_1 : wc.cell? ⟨gb280, 1, none⟩ = some (.int .i64 x281001_2) := (blk_cell BK280.out 1).trans rfl
                      have hfz24_0 := blk_frozen BK280.out 0
                      have hfz24_1 := blk_frozen BK280.out 1
                      go_upto_region 12 with (first | ((with_reducible refine gate_callee (f := 17) rfl ?_); refine goesL_ (some 51) rfl rfl Try.func17 (by kernel_rfl) rfl #[.agg #[.int .i64 a0_0, .int .i64 a0_1, .int .i64 a0_2, .int .i64 a0_3, .int .i64 a0_4, .int .i64 a0_5, .int .i64 a0_6, .int .i64 a0_7, .int .i64 a0_8, .int .i64 a0_9, .int .i64 a0_10], .agg #[.int .i64 x281000_2, .int .i64 x281001_2], .int .i64 (wrap64 ((rd l1 x9_2) - 100))] rfl (by (try simp only [List.map_toArray, List.map_cons, List.map_nil]); first | done | rfl | (simp only [List.length_drop, List.length_take]; rfl)) ?_; (with_reducible refine (journey_Leave.calls a0_0 a0_1 a0_2 a0_3 a0_4 a0_5 a0_6 a0_7 a0_8 a0_9 a0_10 x281000_2 x281001_2 (wrap64 ((rd l1 x9_2) - 100)) t284 t285 t286 t287 _ A20.out).mono ?_); rintro e w25 ⟨rfl, hb⟩; refine ⟨_, rfl, ?_⟩; have n0_ := Aside0.mk (blk_below (g := gb276) (o := .cells #[.int .i64 a0_0, .int .i64 a0_1, .int .i64 a0_2, .int .i64 a0_3, .int .i64 a0_4, .int .i64 a0_5, .int .i64 a0_6, .int .i64 a0_7, .int .i64 a0_8, .int .i64 a0_9, .int .i64 a0_10] 23 (0, 0)) (by (with_reducible repeat (first | refine blk_drewN ?_ _ | refine blk_drew ?_ | refine blk_alloc ?_ _)); exact BK276.out) hb); have n1_ := Aside0.mk (blk_below (g := gb280) (o := .cells #[.int .i64 x281000_2, .int .i64 x281001_2] 25 (0, 0)) (by (with_reducible repeat (first | refine blk_drewN ?_ _ | refine blk_drew ?_ | refine blk_alloc ?_ _)); exact BK280.out) hb); have n2_ := Aside0.mk (below_step (by repeat (first | (with_reducible first | exact HB.out | apply below_alloc | apply pw_below_drewN | apply below_drew1 | refine below_set ?_ GE276.out | refine below_set ?_ GE280.out) | exact HB.out)) hb); clear BK276; clear BK280; clear HB; have BK276 := n0_; have BK280 := n1_; have HB := n2_; clear n0_ n1_ n2_; (try clear hb); (try clear hb2); (try clear hk); (try clear hi); (try clear A20)) | ((with_reducible refine gate_dst (N := 11) rfl ?_); refine box_event ?hg (N := 11) ?hd (cs := #[.int .i64 0, .int .i64 0]) (t := 25) ?hr ?_; (case hd => rfl); (case hg => rfl); (case hr => first | (go_simp; done) | (go_simp; rfl)); intro gb288 hg w26 hbox hb; have n0_ := Aside0.mk (blk_below (g := gb276) (o := .cells #[.int .i64 a0_0, .int .i64 a0_1, .int .i64 a0_2, .int .i64 a0_3, .int .i64 a0_4, .int .i64 a0_5, .int .i64 a0_6, .int .i64 a0_7, .int .i64 a0_8, .int .i64 a0_9, .int .i64 a0_10] 23 (0, 0)) (by (with_reducible repeat (first | refine blk_drewN ?_ _ | refine blk_drew ?_ | refine blk_alloc ?_ _)); exact BK276.out) hb); have n1_ := Aside0.mk (blk_below (g := gb280) (o := .cells #[.int .i64 x281000_2, .int .i64 x281001_2] 25 (0, 0)) (by (with_reducible repeat (first | refine blk_drewN ?_ _ | refine blk_drew ?_ | refine blk_alloc ?_ _)); exact BK280.out) hb); have n2_ := Aside0.mk (below_step (by repeat (first | (with_reducible first | exact HB.out | apply below_alloc | apply pw_below_drewN | apply below_drew1 | refine below_set ?_ GE276.out | refine below_set ?_ GE280.out) | exact HB.out)) hb); have n3_ := Aside0.mk (hbox); have n4_ := Aside0.mk ((by rw [hg]; exact (below_size (by repeat (first | (with_reducible first | exact HB.out | apply below_alloc | apply pw_below_drewN | apply below_drew1 | refine below_set ?_ GE276.out | refine below_set ?_ GE280.out) | exact HB.out))) : w.heap.size ≤ gb288)); have n5_ := Aside0.mk ((by rw [hg]; exact (below_size (by repeat (first | (with_reducible first | exact HB.out | apply below_alloc | apply pw_below_drewN | apply below_drew1 | refine below_set ?_ GE276.out | refine below_set ?_ GE280.out) | exact HB.out))) : w.heap.size ≤ gb288)); have n6_ := Aside0.mk ((by rw [hg]; exact Nat.ne_of_lt (blk_lt (g := gb276) (o := .cells #[.int .i64 a0_0, .int .i64 a0_1, .int .i64 a0_2, .int .i64 a0_3, .int .i64 a0_4, .int .i64 a0_5, .int .i64 a0_6, .int .i64 a0_7, .int .i64 a0_8, .int .i64 a0_9, .int .i64 a0_10] 23 (0, 0)) (by (with_reducible repeat (first | refine blk_drewN ?_ _ | refine blk_drew ?_ | refine blk_alloc ?_ _)); exact BK276.out)) : gb276 ≠ gb288)); have n7_ := Aside0.mk ((by rw [hg]; exact Nat.ne_of_gt (blk_lt (g := gb276) (o := .cells #[.int .i64 a0_0, .int .i64 a0_1, .int .i64 a0_2, .int .i64 a0_3, .int .i64 a0_4, .int .i64 a0_5, .int .i64 a0_6, .int .i64 a0_7, .int .i64 a0_8, .int .i64 a0_9, .int .i64 a0_10] 23 (0, 0)) (by (with_reducible repeat (first | refine blk_drewN ?_ _ | refine blk_drew ?_ | refine blk_alloc ?_ _)); exact BK276.out)) : gb288 ≠ gb276)); have n8_ := Aside0.mk ((by rw [hg]; exact Nat.ne_of_lt (blk_lt (g := gb280) (o := .cells #[.int .i64 x281000_2, .int .i64 x281001_2] 25 (0, 0)) (by (with_reducible repeat (first | refine blk_drewN ?_ _ | refine blk_drew ?_ | refine blk_alloc ?_ _)); exact BK280.out)) : gb280 ≠ gb288)); have n9_ := Aside0.mk ((by rw [hg]; exact Nat.ne_of_gt (blk_lt (g := gb280) (o := .cells #[.int .i64 x281000_2, .int .i64 x281001_2] 25 (0, 0)) (by (with_reducible repeat (first | refine blk_drewN ?_ _ | refine blk_drew ?_ | refine blk_alloc ?_ _)); exact BK280.out)) : gb288 ≠ gb280)); clear BK276; clear BK280; clear HB; have BK276 := n0_; have BK280 := n1_; have HB := n2_; have BK288 := n3_; have GW288 := n4_; have GE288 := n5_; have NB276_288 := n6_; have NB288_276 := n7_; have NB280_288 := n8_; have NB288_280 := n9_; clear n0_ n1_ n2_ n3_ n4_ n5_ n6_ n7_ n8_ n9_; clear hb hbox hg; have hnb27 := NB288_276.out; have hnc27 := NB276_288.out; have hnb28 := NB288_280.out; have hnc28 := NB280_288.out; have hcz29_0 : w26.cell? ⟨gb288, 0, none⟩ = some (.int .i64 0) := (blk_cell BK288.out 0).trans rfl; have hcz29_1 : w26.cell? ⟨gb288, 1, none⟩ = some (.int .i64 0) := (blk_cell BK288.out 1).trans rfl; have hfz29_0 := blk_frozen BK288.out 0; have hfz29_1 := blk_frozen BK288.out 1))
                      (try simp only [Act.put, List.setIfInBounds_toArray, List.set_cons_zero, List.set_cons_succ])
                      go_cut [60] (fun v60 wc => ∃ (kq : Nat) (x60_20 : Bool), v60 = .bool x60_20 ∧ Aside0 (gatelinelaw23_JourneyCounts.j3 kq l1 x7_2 x8_2 x9_2 x60_20 a0_0 a0_1 a0_2 a0_3 a0_4 a0_5 a0_6 a0_7 a0_8 a0_9 a0_10 x281000_2 x281001_2 t284 t285 = some r) ∧ Aside0 (kq ≤ kj16) ∧ Aside0 (wc.heap[gb276]? = some (.cells #[.int .i64 a0_0, .int .i64 a0_1, .int .i64 a0_2, .int .i64 a0_3, .int .i64 a0_4, .int .i64 a0_5, .int .i64 a0_6, .int .i64 a0_7, .int .i64 a0_8, .int .i64 a0_9, .int .i64 a0_10] 23 (0, 0))) ∧ Aside0 (wc.heap[gb280]? = some (.cells #[.int .i64 x281000_2, .int .i64 x281001_2] 25 (0, 0))) ∧ Aside0 (wc.heap[gb288]? = some (.cells #[.int .i64 t284, .int .i64 t285] 25 (0, 0))) ∧ Aside0 (Below w.heap.size w wc))
                      case first =>
                        have H := HC21.out
                        clear HC21
                        by_cases c30 : t287 = 0
                        · rw [if_pos c30] at H
                          have c30b0 : (t287 == 0) = true := beq_iff_eq.mpr c30
                          have c30b1 : (t287 != 0) = false := bne_eq_false_iff_eq.mpr c30
                          clear c30
                          (first | rw [c30b0] | (simp only [i64_w, i32_w]; rw [c30b0]) | skip)
                          have H' := Aside0.mk H
                          clear H
                          go_wp2
                          go_meet
                          case rel => exact ⟨_, ((t286 == 0)), (by first | rfl | (simp; done) | (simp [*]; done)), H', ⟨by have := HJ3.out; have := HK2.out; have := HJ16.out; first | omega | exact Nat.le_refl _⟩, ⟨by (with_reducible repeat (first | refine blk_drewN ?_ _ | refine blk_drew ?_ | refine blk_alloc ?_ _)); refine blk_far ?_ NB276_288.out _; (with_reducible repeat (first | refine blk_drewN ?_ _ | refine blk_drew ?_ | refine blk_alloc ?_ _)); refine blk_far ?_ NB276_288.out _; (with_reducible repeat (first | refine blk_drewN ?_ _ | refine blk_drew ?_ | refine blk_alloc ?_ _)); exact BK276.out⟩, ⟨by (with_reducible repeat (first | refine blk_drewN ?_ _ | refine blk_drew ?_ | refine blk_alloc ?_ _)); refine blk_far ?_ NB280_288.out _; (with_reducible repeat (first | refine blk_drewN ?_ _ | refine blk_drew ?_ | refine blk_alloc ?_ _)); refine blk_far ?_ NB280_288.out _; (with_reducible repeat (first | refine blk_drewN ?_ _ | refine blk_drew ?_ | refine blk_alloc ?_ _)); exact BK280.out⟩, ⟨by (with_reducible repeat (first | refine blk_drewN ?_ _ | refine blk_drew ?_ | refine blk_alloc ?_ _)); refine blk_put (cs := #[.int .i64 t284, .int .i64 0]) ?_ 1 _ rfl; (with_reducible repeat (first | refine blk_drewN ?_ _ | refine blk_drew ?_ | refine blk_alloc ?_ _)); refine blk_put (cs := #[.int .i64 0, .int .i64 0]) ?_ 0 _ rfl; (with_reducible repeat (first | refine blk_drewN ?_ _ | refine blk_drew ?_ | refine blk_alloc ?_ _)); exact BK288.out⟩, ⟨by repeat (first | (with_reducible first | exact HB.out | apply below_alloc | apply pw_below_drewN | apply below_drew1 | refine below_set ?_ GE276.out | refine below_set ?_ GE280.out | refine below_set ?_ GE288.out) | exact HB.out)⟩⟩
                        · rw [if_neg c30] at H
                          have c30b0 : (t287 == 0) = false := beq_eq_false_iff_ne.mpr c30
                          have c30b1 : (t287 != 0) = true := bne_iff_ne.mpr c30
                          (first | rw [c30b0] | (simp only [i64_w, i32_w]; rw [c30b0]) | skip)
                          have H' := Aside0.mk H
                          clear H
                          go_wp2
                          go_meet
                          case rel => exact ⟨_, (false), (by first | rfl | (simp; done) | (simp [*]; done)), H', ⟨by have := HJ3.out; have := HK2.out; have := HJ16.out; first | omega | exact Nat.le_refl _⟩, ⟨by (with_reducible repeat (first | refine blk_drewN ?_ _ | refine blk_drew ?_ | refine blk_alloc ?_ _)); refine blk_far ?_ NB276_288.out _; (with_reducible repeat (first | refine blk_drewN ?_ _ | refine blk_drew ?_ | refine blk_alloc ?_ _)); refine blk_far ?_ NB276_288.out _; (with_reducible repeat (first | refine blk_drewN ?_ _ | refine blk_drew ?_ | refine blk_alloc ?_ _)); exact BK276.out⟩, ⟨by (with_reducible repeat (first | refine blk_drewN ?_ _ | refine blk_drew ?_ | refine blk_alloc ?_ _)); refine blk_far ?_ NB280_288.out _; (with_reducible repeat (first | refine blk_drewN ?_ _ | refine blk_drew ?_ | refine blk_alloc ?_ _)); refine blk_far ?_ NB280_288.out _; (with_reducible repeat (first | refine blk_drewN ?_ _ | refine blk_drew ?_ | refine blk_alloc ?_ _)); exact BK280.out⟩, ⟨by (with_reducible repeat (first | refine blk_drewN ?_ _ | refine blk_drew ?_ | refine blk_alloc ?_ _)); refine blk_put (cs := #[.int .i64 t284, .int .i64 0]) ?_ 1 _ rfl; (with_reducible repeat (first | refine blk_drewN ?_ _ | refine blk_drew ?_ | refine blk_alloc ?_ _)); refine blk_put (cs := #[.int .i64 0, .int .i64 0]) ?_ 0 _ rfl; (with_reducible repeat (first | refine blk_drewN ?_ _ | refine blk_drew ?_ | refine blk_alloc ?_ _)); exact BK288.out⟩, ⟨by repeat (first | (with_reducible first | exact HB.out | apply below_alloc | apply pw_below_drewN | apply below_drew1 | refine below_set ?_ GE276.out | refine below_set ?_ GE280.out | refine below_set ?_ GE288.out) | exact HB.out)⟩⟩
                      case rest =>
                        clear HC21
                        try clear c1
                        try clear c2
                        try clear p2
                        try clear q2
                        try clear hx2
                        try clear c3
                        try clear c6
                        try clear p6
                        try clear c9
                        try clear c11
                        try clear c11b0
                        try clear c11b1
                        try clear c12
                        try clear c15
                        try clear c15b0
                        try clear c16
                        try clear c16b0
                        try clear c17
                        try clear c18
                        try clear c18b0
                        try clear c19
                        try clear c20
                        try clear c22
                        try clear c27
                        try clear c28
                        try clear p28
                        try clear q28
                        try clear hx28
                        try clear c30
                        try clear c30b0
                        try clear c30b1
                        try clear hcz10_0
                        try clear hcz10_1
                        try clear hcz23_0
                        try clear hcz23_1
                        try clear hcz23_10
                        try clear hcz23_2
                        try clear hcz23_3
                        try clear hcz23_4
                        try clear hcz23_5
                        try clear hcz23_6
                        try clear hcz23_7
                        try clear hcz23_8
                        try clear hcz23_9
                        try clear hcz24_0
                        try clear hcz24_1
                        try clear hcz29_0
                        try clear hcz29_1
                        try clear hcz6_0
                        try clear hcz6_1
                        try clear hcz6_10
                        try clear hcz6_2
                        try clear hcz6_3
                        try clear hcz6_4
                        try clear hcz6_5
                        try clear hcz6_6
                        try clear hcz6_7
                        try clear hcz6_8
                        try clear hcz6_9
                        try clear hfz10_0
                        try clear hfz10_1
                        try clear hfz23_0
                        try clear hfz23_1
                        try clear hfz23_10
                        try clear hfz23_2
                        try clear hfz23_3
                        try clear hfz23_4
                        try clear hfz23_5
                        try clear hfz23_6
                        try clear hfz23_7
                        try clear hfz23_8
                        try clear hfz23_9
                        try clear hfz24_0
                        try clear hfz24_1
                        try clear hfz29_0
                        try clear hfz29_1
                        try clear hfz6_0
                        try clear hfz6_1
                        try clear hfz6_10
                        try clear hfz6_2
                        try clear hfz6_3
                        try clear hfz6_4
                        try clear hfz6_5
                        try clear hfz6_6
                        try clear hfz6_7
                        try clear hfz6_8
                        try clear hfz6_9
                        try clear hx283_0
                        try clear p2
                        try clear p283
                        try clear q2
                        try clear q283
                        obtain ⟨kq, x60_20, rfl, HA, HJ20, BK276, BK280, BK288, HB⟩ := hcut
                        cases kq with
                        | zero => exact absurd HA.out (by simp [gatelinelaw23_JourneyCounts.j3])
                        | succ kj20 =>
                          have H := HA.out
                          clear HA
                          simp only [gatelinelaw23_JourneyCounts.j3] at H
                          by_cases c31 : x60_20 = true
                          · subst c31
                            have H1 : (if x8_2 = true then (gatelinelaw23_JourneyCounts.l0 kj20 l1 x7_2 false (wrap64 (x9_2 + 1)) a0_0 a0_1 a0_2 a0_3 a0_4 a0_5 a0_6 a0_7 a0_8 a0_9 a0_10 t284 t285) else (some false)) = some r := by rw [if_pos rfl] at H; exact H
                            clear H
                            have H := H1
                            clear H1
                            by_cases c32 : x8_2 = true
                            · subst c32
                              have H1 : (gatelinelaw23_JourneyCounts.l0 kj20 l1 x7_2 false (wrap64 (x9_2 + 1)) a0_0 a0_1 a0_2 a0_3 a0_4 a0_5 a0_6 a0_7 a0_8 a0_9 a0_10 t284 t285) = some r := by rw [if_pos rfl] at H; exact H
                              clear H
                              have H := H1
                              clear H1
                              have H' := Aside0.mk H
                              clear H
                              have hnb33 := NB288_276.out
                              have hnc33 := NB276_288.out
                              have hnb34 := NB288_280.out
                              have hnc34 := NB280_288.out
                              have hcz35_0 : wc.cell? ⟨gb288, 0, none⟩ = some (.int .i64 t284) := (blk_cell BK288.out 0).trans rfl
                              have hcz35_1 : wc.cell? ⟨gb288, 1, none⟩ = some (.int .i64 t285) := (blk_cell BK288.out 1).trans rfl
                              have hfz35_0 := blk_frozen BK288.out 0
                              have hfz35_1 := blk_frozen BK288.out 1
                              have hnb36 := NB280_276.out
                              have hnc36 := NB276_280.out
                              have hcz37_0 : wc.cell? ⟨gb280, 0, none⟩ = some (.int .i64 x281000_2) := (blk_cell BK280.out 0).trans rfl
                              have hcz37_1 : wc.cell? ⟨gb280, 1, none⟩ = some (.int .i64 x281001_2) := (blk_cell BK280.out 1).trans rfl
                              have hfz37_0 := blk_frozen BK280.out 0
                              have hfz37_1 := blk_frozen BK280.out 1
                              go_wp2
                              go_roundg kj20
                              case measure => have := HJ3.out; have := HK2.out; have := HJ16.out; have := HJ20.out; omega
                              case rel => exact ⟨(x7_2), (false), (wrap64 (x9_2 + 1)), (t284), (t285), (by first | rfl | (simp; done) | (simp [*]; done)), (by first | rfl | (simp; done) | (simp [*]; done)), (by first | rfl | (simp; done) | (simp [*]; done)), H', ⟨by have := HJ3.out; have := HK2.out; have := HJ16.out; have := HJ20.out; omega⟩, ⟨by (with_reducible repeat (first | refine blk_drewN ?_ _ | refine blk_drew ?_ | refine blk_alloc ?_ _)); refine blk_far ?_ NB276_280.out _; (with_reducible repeat (first | refine blk_drewN ?_ _ | refine blk_drew ?_ | refine blk_alloc ?_ _)); refine blk_far ?_ NB276_280.out _; (with_reducible repeat (first | refine blk_drewN ?_ _ | refine blk_drew ?_ | refine blk_alloc ?_ _)); exact BK276.out⟩, ⟨by (with_reducible repeat (first | refine blk_drewN ?_ _ | refine blk_drew ?_ | refine blk_alloc ?_ _)); refine blk_put (cs := #[.int .i64 t284, .int .i64 x281001_2]) ?_ 1 _ rfl; (with_reducible repeat (first | refine blk_drewN ?_ _ | refine blk_drew ?_ | refine blk_alloc ?_ _)); refine blk_put (cs := #[.int .i64 x281000_2, .int .i64 x281001_2]) ?_ 0 _ rfl; (with_reducible repeat (first | refine blk_drewN ?_ _ | refine blk_drew ?_ | refine blk_alloc ?_ _)); exact BK280.out⟩, ⟨by repeat (first | (with_reducible first | exact HB.out | apply below_alloc | apply pw_below_drewN | apply below_drew1 | refine below_set ?_ GE276.out | refine below_set ?_ GE280.out | refine below_set ?_ GE288.out) | exact HB.out)⟩⟩
                            · replace c32 := Bool.eq_false_iff.mpr c32
                              subst c32
                              have H1 : (some false) = some r := by rw [if_neg (show ¬ (false = true) by decide)] at H; exact H
                              clear H
                              have H := H1
                              clear H1
                              obtain rfl := Option.some.inj H
                              go_wp2
                              go_ret
                              exact ⟨by first | rfl | (simp [errW_none, errW_some] <;> rfl) | (simp [*, errW_none, errW_some] <;> rfl), by repeat (first | (with_reducible first | exact HB.out | apply below_alloc | apply pw_below_drewN | apply below_drew1 | refine below_set ?_ GE276.out | refine below_set ?_ GE280.out | refine below_set ?_ GE288.out) | exact HB.out)⟩
                          · replace c31 := Bool.eq_false_iff.mpr c31
                            subst c31
                            have H1 : (gatelinelaw23_JourneyCounts.l0 kj20 l1 x7_2 x8_2 (wrap64 (x9_2 + 1)) a0_0 a0_1 a0_2 a0_3 a0_4 a0_5 a0_6 a0_7 a0_8 a0_9 a0_10 x281000_2 x281001_2) = some r := by rw [if_neg (show ¬ (false = true) by decide)] at H; exact H
                            clear H
                            have H := H1
                            clear H1
                            have H' := Aside0.mk H
                            clear H
                            go_wp2
                            go_roundg kj20
                            case measure => have := HJ3.out; have := HK2.out; have := HJ16.out; have := HJ20.out; omega
                            case rel => exact ⟨(x7_2), (x8_2), (wrap64 (x9_2 + 1)), (x281000_2), (x281001_2), (by first | rfl | (simp; done) | (simp [*]; done)), (by first | rfl | (simp; done) | (simp [*]; done)), (by first | rfl | (simp; done) | (simp [*]; done)), H', ⟨by have := HJ3.out; have := HK2.out; have := HJ16.out; have := HJ20.out; omega⟩, ⟨by (with_reducible repeat (first | refine blk_drewN ?_ _ | refine blk_drew ?_ | refine blk_alloc ?_ _)); exact BK276.out⟩, ⟨by (with_reducible repeat (first | refine blk_drewN ?_ _ | refine blk_drew ?_ | refine blk_alloc ?_ _)); exact BK280.out⟩, ⟨by repeat (first | (with_reducible first | exact HB.out | apply below_alloc | apply pw_below_drewN | apply below_drew1 | refine below_set ?_ GE276.out | refine below_set ?_ GE280.out | refine below_set ?_ GE288.out) | exact HB.out)⟩⟩
                    · replace c19 := Bool.eq_false_iff.mpr c19
                      subst c19
                      have H1 : ((journey_Enter.f a0_0 a0_1 a0_2 a0_3 a0_4 a0_5 a0_6 a0_7 a0_8 a0_9 a0_10 x281000_2 x281001_2 (rd l1 x9_2)).bind fun bt289 => (if bt289.2.2.2 = 0 then (gatelinelaw23_JourneyCounts.j4 kj16 l1 x7_2 x8_2 x9_2 (bt289.2.2.1 == 0) a0_0 a0_1 a0_2 a0_3 a0_4 a0_5 a0_6 a0_7 a0_8 a0_9 a0_10 x281000_2 x281001_2 bt289.1 bt289.2.1) else (gatelinelaw23_JourneyCounts.j4 kj16 l1 x7_2 x8_2 x9_2 false a0_0 a0_1 a0_2 a0_3 a0_4 a0_5 a0_6 a0_7 a0_8 a0_9 a0_10 x281000_2 x281001_2 bt289.1 bt289.2.1))) = some r := by rw [if_neg (show ¬ (false = true) by decide)] at H; exact H
                      clear H
                      have H := H1
                      clear H1
                      replace H := Option.bind_eq_some_iff.mp H
                      obtain ⟨⟨t289, t290, t291, t292⟩, A380, H⟩ := H
                      replace H : (if t292 = 0 then (gatelinelaw23_JourneyCounts.j4 kj16 l1 x7_2 x8_2 x9_2 (t291 == 0) a0_0 a0_1 a0_2 a0_3 a0_4 a0_5 a0_6 a0_7 a0_8 a0_9 a0_10 x281000_2 x281001_2 t289 t290) else (gatelinelaw23_JourneyCounts.j4 kj16 l1 x7_2 x8_2 x9_2 false a0_0 a0_1 a0_2 a0_3 a0_4 a0_5 a0_6 a0_7 a0_8 a0_9 a0_10 x281000_2 x281001_2 t289 t290)) = some r := H
                      have A38 := Aside0.mk A380
                      clear A380
                      have HC39 := Aside0.mk H
                      clear H
                      have hnb40 := NB276_280.out
                      have hnc40 := NB280_276.out
                      have hcz41_0 : wc.cell? ⟨gb276, 0, none⟩ = some (.int .i64 a0_0) := (blk_cell BK276.out 0).trans rfl
                      have hcz41_1 : wc.cell? ⟨gb276, 1, none⟩ = some (.int .i64 a0_1) := (blk_cell BK276.out 1).trans rfl
                      have hcz41_2 : wc.cell? ⟨gb276, 2, none⟩ = some (.int .i64 a0_2) := (blk_cell BK276.out 2).trans rfl
                      have hcz41_3 : wc.cell? ⟨gb276, 3, none⟩ = some (.int .i64 a0_3) := (blk_cell BK276.out 3).trans rfl
                      have hcz41_4 : wc.cell? ⟨gb276, 4, none⟩ = some (.int .i64 a0_4) := (blk_cell BK276.out 4).trans rfl
                      have hcz41_5 : wc.cell? ⟨gb276, 5, none⟩ = some (.int .i64 a0_5) := (blk_cell BK276.out 5).trans rfl
                      have hcz41_6 : wc.cell? ⟨gb276, 6, none⟩ = some (.int .i64 a0_6) := (blk_cell BK276.out 6).trans rfl
                      have hcz41_7 : wc.cell? ⟨gb276, 7, none⟩ = some (.int .i64 a0_7) := (blk_cell BK276.out 7).trans rfl
                      have hcz41_8 : wc.cell? ⟨gb276, 8, none⟩ = some (.int .i64 a0_8) := (blk_cell BK276.out 8).trans rfl
                      have hcz41_9 : wc.cell? ⟨gb276, 9, none⟩ = some (.int .i64 a0_9) := (blk_cell BK276.out 9).trans rfl
                      have hcz41_10 : wc.cell? ⟨gb276, 10, none⟩ = some (.int .i64 a0_10) := (blk_cell BK276.out 10).trans rfl
                      have hfz41_0 := blk_frozen BK276.out 0
                      have hfz41_1 := blk_frozen BK276.out 1
                      have hfz41_2 := blk_frozen BK276.out 2
                      have hfz41_3 := blk_frozen BK276.out 3
                      have hfz41_4 := blk_frozen BK276.out 4
                      have hfz41_5 := blk_frozen BK276.out 5
                      have hfz41_6 := blk_frozen BK276.out 6
                      have hfz41_7 := blk_frozen BK276.out 7
                      have hfz41_8 := blk_frozen BK276.out 8
                      have hfz41_9 := blk_frozen BK276.out 9
                      have hfz41_10 := blk_frozen BK276.out 10
                      have hcz42_0 : wc.cell? ⟨gb280, 0, none⟩ = some (.int .i64 x281000_2) := (blk_cell BK280.out 0).trans rfl
                      have hcz42_1 : wc.cell? ⟨gb280, 1, none⟩ = some (.int .i64 x281001_2) := (blk_cell BK280.out 1).trans rfl
                      have hfz42_0 := blk_frozen BK280.out 0
                      have hfz42_1 := blk_frozen BK280.out 1
                      go_upto_region 18 with (first | ((with_reducible refine gate_callee (f := 15) rfl ?_); refine goesL_ (some 68) rfl rfl Try.func15 (by kernel_rfl) rfl #[.agg #[.int .i64 a0_0, .int .i64 a0_1, .int .i64 a0_2, .int .i64 a0_3, .int .i64 a0_4, .int .i64 a0_5, .int .i64 a0_6, .int .i64 a0_7, .int .i64 a0_8, .int .i64 a0_9, .int .i64 a0_10], .agg #[.int .i64 x281000_2, .int .i64 x281001_2], .int .i64 (rd l1 x9_2)] rfl (by (try simp only [List.map_toArray, List.map_cons, List.map_nil]); first | done | rfl | (simp only [List.length_drop, List.length_take]; rfl)) ?_; (with_reducible refine (journey_Enter.calls a0_0 a0_1 a0_2 a0_3 a0_4 a0_5 a0_6 a0_7 a0_8 a0_9 a0_10 x281000_2 x281001_2 (rd l1 x9_2) t289 t290 t291 t292 _ A38.out).mono ?_); rintro e w43 ⟨rfl, hb⟩; refine ⟨_, rfl, ?_⟩; have n0_ := Aside0.mk (blk_below (g := gb276) (o := .cells #[.int .i64 a0_0, .int .i64 a0_1, .int .i64 a0_2, .int .i64 a0_3, .int .i64 a0_4, .int .i64 a0_5, .int .i64 a0_6, .int .i64 a0_7, .int .i64 a0_8, .int .i64 a0_9, .int .i64 a0_10] 23 (0, 0)) (by (with_reducible repeat (first | refine blk_drewN ?_ _ | refine blk_drew ?_ | refine blk_alloc ?_ _)); exact BK276.out) hb); have n1_ := Aside0.mk (blk_below (g := gb280) (o := .cells #[.int .i64 x281000_2, .int .i64 x281001_2] 25 (0, 0)) (by (with_reducible repeat (first | refine blk_drewN ?_ _ | refine blk_drew ?_ | refine blk_alloc ?_ _)); exact BK280.out) hb); have n2_ := Aside0.mk (below_step (by repeat (first | (with_reducible first | exact HB.out | apply below_alloc | apply pw_below_drewN | apply below_drew1 | refine below_set ?_ GE276.out | refine below_set ?_ GE280.out) | exact HB.out)) hb); clear BK276; clear BK280; clear HB; have BK276 := n0_; have BK280 := n1_; have HB := n2_; clear n0_ n1_ n2_; (try clear hb); (try clear hb2); (try clear hk); (try clear hi); (try clear A38)) | ((with_reducible refine gate_dst (N := 14) rfl ?_); refine box_event ?hg (N := 14) ?hd (cs := #[.int .i64 0, .int .i64 0]) (t := 25) ?hr ?_; (case hd => rfl); (case hg => rfl); (case hr => first | (go_simp; done) | (go_simp; rfl)); intro gb293 hg w44 hbox hb; have n0_ := Aside0.mk (blk_below (g := gb276) (o := .cells #[.int .i64 a0_0, .int .i64 a0_1, .int .i64 a0_2, .int .i64 a0_3, .int .i64 a0_4, .int .i64 a0_5, .int .i64 a0_6, .int .i64 a0_7, .int .i64 a0_8, .int .i64 a0_9, .int .i64 a0_10] 23 (0, 0)) (by (with_reducible repeat (first | refine blk_drewN ?_ _ | refine blk_drew ?_ | refine blk_alloc ?_ _)); exact BK276.out) hb); have n1_ := Aside0.mk (blk_below (g := gb280) (o := .cells #[.int .i64 x281000_2, .int .i64 x281001_2] 25 (0, 0)) (by (with_reducible repeat (first | refine blk_drewN ?_ _ | refine blk_drew ?_ | refine blk_alloc ?_ _)); exact BK280.out) hb); have n2_ := Aside0.mk (below_step (by repeat (first | (with_reducible first | exact HB.out | apply below_alloc | apply pw_below_drewN | apply below_drew1 | refine below_set ?_ GE276.out | refine below_set ?_ GE280.out) | exact HB.out)) hb); have n3_ := Aside0.mk (hbox); have n4_ := Aside0.mk ((by rw [hg]; exact (below_size (by repeat (first | (with_reducible first | exact HB.out | apply below_alloc | apply pw_below_drewN | apply below_drew1 | refine below_set ?_ GE276.out | refine below_set ?_ GE280.out) | exact HB.out))) : w.heap.size ≤ gb293)); have n5_ := Aside0.mk ((by rw [hg]; exact (below_size (by repeat (first | (with_reducible first | exact HB.out | apply below_alloc | apply pw_below_drewN | apply below_drew1 | refine below_set ?_ GE276.out | refine below_set ?_ GE280.out) | exact HB.out))) : w.heap.size ≤ gb293)); have n6_ := Aside0.mk ((by rw [hg]; exact Nat.ne_of_lt (blk_lt (g := gb276) (o := .cells #[.int .i64 a0_0, .int .i64 a0_1, .int .i64 a0_2, .int .i64 a0_3, .int .i64 a0_4, .int .i64 a0_5, .int .i64 a0_6, .int .i64 a0_7, .int .i64 a0_8, .int .i64 a0_9, .int .i64 a0_10] 23 (0, 0)) (by (with_reducible repeat (first | refine blk_drewN ?_ _ | refine blk_drew ?_ | refine blk_alloc ?_ _)); exact BK276.out)) : gb276 ≠ gb293)); have n7_ := Aside0.mk ((by rw [hg]; exact Nat.ne_of_gt (blk_lt (g := gb276) (o := .cells #[.int .i64 a0_0, .int .i64 a0_1, .int .i64 a0_2, .int .i64 a0_3, .int .i64 a0_4, .int .i64 a0_5, .int .i64 a0_6, .int .i64 a0_7, .int .i64 a0_8, .int .i64 a0_9, .int .i64 a0_10] 23 (0, 0)) (by (with_reducible repeat (first | refine blk_drewN ?_ _ | refine blk_drew ?_ | refine blk_alloc ?_ _)); exact BK276.out)) : gb293 ≠ gb276)); have n8_ := Aside0.mk ((by rw [hg]; exact Nat.ne_of_lt (blk_lt (g := gb280) (o := .cells #[.int .i64 x281000_2, .int .i64 x281001_2] 25 (0, 0)) (by (with_reducible repeat (first | refine blk_drewN ?_ _ | refine blk_drew ?_ | refine blk_alloc ?_ _)); exact BK280.out)) : gb280 ≠ gb293)); have n9_ := Aside0.mk ((by rw [hg]; exact Nat.ne_of_gt (blk_lt (g := gb280) (o := .cells #[.int .i64 x281000_2, .int .i64 x281001_2] 25 (0, 0)) (by (with_reducible repeat (first | refine blk_drewN ?_ _ | refine blk_drew ?_ | refine blk_alloc ?_ _)); exact BK280.out)) : gb293 ≠ gb280)); clear BK276; clear BK280; clear HB; have BK276 := n0_; have BK280 := n1_; have HB := n2_; have BK293 := n3_; have GW293 := n4_; have GE293 := n5_; have NB276_293 := n6_; have NB293_276 := n7_; have NB280_293 := n8_; have NB293_280 := n9_; clear n0_ n1_ n2_ n3_ n4_ n5_ n6_ n7_ n8_ n9_; clear hb hbox hg; have hnb45 := NB293_276.out; have hnc45 := NB276_293.out; have hnb46 := NB293_280.out; have hnc46 := NB280_293.out; have hcz47_0 : w44.cell? ⟨gb293, 0, none⟩ = some (.int .i64 0) := (blk_cell BK293.out 0).trans rfl; have hcz47_1 : w44.cell? ⟨gb293, 1, none⟩ = some (.int .i64 0) := (blk_cell BK293.out 1).trans rfl; have hfz47_0 := blk_frozen BK293.out 0; have hfz47_1 := blk_frozen BK293.out 1))
                      (try simp only [Act.put, List.setIfInBounds_toArray, List.set_cons_zero, List.set_cons_succ])
                      go_cut [77] (fun v77 wc => ∃ (kq : Nat) (x77_38 : Bool), v77 = .bool x77_38 ∧ Aside0 (gatelinelaw23_JourneyCounts.j4 kq l1 x7_2 x8_2 x9_2 x77_38 a0_0 a0_1 a0_2 a0_3 a0_4 a0_5 a0_6 a0_7 a0_8 a0_9 a0_10 x281000_2 x281001_2 t289 t290 = some r) ∧ Aside0 (kq ≤ kj16) ∧ Aside0 (wc.heap[gb276]? = some (.cells #[.int .i64 a0_0, .int .i64 a0_1, .int .i64 a0_2, .int .i64 a0_3, .int .i64 a0_4, .int .i64 a0_5, .int .i64 a0_6, .int .i64 a0_7, .int .i64 a0_8, .int .i64 a0_9, .int .i64 a0_10] 23 (0, 0))) ∧ Aside0 (wc.heap[gb280]? = some (.cells #[.int .i64 x281000_2, .int .i64 x281001_2] 25 (0, 0))) ∧ Aside0 (wc.heap[gb293]? = some (.cells #[.int .i64 t289, .int .i64 t290] 25 (0, 0))) ∧ Aside0 (Below w.heap.size w wc))
                      case first =>
                        have H := HC39.out
                        clear HC39
                        by_cases c48 : t292 = 0
                        · rw [if_pos c48] at H
                          have c48b0 : (t292 == 0) = true := beq_iff_eq.mpr c48
                          have c48b1 : (t292 != 0) = false := bne_eq_false_iff_eq.mpr c48
                          clear c48
                          (first | rw [c48b0] | (simp only [i64_w, i32_w]; rw [c48b0]) | skip)
                          have H' := Aside0.mk H
                          clear H
                          go_wp2
                          go_meet
                          case rel => exact ⟨_, ((t291 == 0)), (by first | rfl | (simp; done) | (simp [*]; done)), H', ⟨by have := HJ3.out; have := HK2.out; have := HJ16.out; first | omega | exact Nat.le_refl _⟩, ⟨by (with_reducible repeat (first | refine blk_drewN ?_ _ | refine blk_drew ?_ | refine blk_alloc ?_ _)); refine blk_far ?_ NB276_293.out _; (with_reducible repeat (first | refine blk_drewN ?_ _ | refine blk_drew ?_ | refine blk_alloc ?_ _)); refine blk_far ?_ NB276_293.out _; (with_reducible repeat (first | refine blk_drewN ?_ _ | refine blk_drew ?_ | refine blk_alloc ?_ _)); exact BK276.out⟩, ⟨by (with_reducible repeat (first | refine blk_drewN ?_ _ | refine blk_drew ?_ | refine blk_alloc ?_ _)); refine blk_far ?_ NB280_293.out _; (with_reducible repeat (first | refine blk_drewN ?_ _ | refine blk_drew ?_ | refine blk_alloc ?_ _)); refine blk_far ?_ NB280_293.out _; (with_reducible repeat (first | refine blk_drewN ?_ _ | refine blk_drew ?_ | refine blk_alloc ?_ _)); exact BK280.out⟩, ⟨by (with_reducible repeat (first | refine blk_drewN ?_ _ | refine blk_drew ?_ | refine blk_alloc ?_ _)); refine blk_put (cs := #[.int .i64 t289, .int .i64 0]) ?_ 1 _ rfl; (with_reducible repeat (first | refine blk_drewN ?_ _ | refine blk_drew ?_ | refine blk_alloc ?_ _)); refine blk_put (cs := #[.int .i64 0, .int .i64 0]) ?_ 0 _ rfl; (with_reducible repeat (first | refine blk_drewN ?_ _ | refine blk_drew ?_ | refine blk_alloc ?_ _)); exact BK293.out⟩, ⟨by repeat (first | (with_reducible first | exact HB.out | apply below_alloc | apply pw_below_drewN | apply below_drew1 | refine below_set ?_ GE276.out | refine below_set ?_ GE280.out | refine below_set ?_ GE293.out) | exact HB.out)⟩⟩
                        · rw [if_neg c48] at H
                          have c48b0 : (t292 == 0) = false := beq_eq_false_iff_ne.mpr c48
                          have c48b1 : (t292 != 0) = true := bne_iff_ne.mpr c48
                          (first | rw [c48b0] | (simp only [i64_w, i32_w]; rw [c48b0]) | skip)
                          have H' := Aside0.mk H
                          clear H
                          go_wp2
                          go_meet
                          case rel => exact ⟨_, (false), (by first | rfl | (simp; done) | (simp [*]; done)), H', ⟨by have := HJ3.out; have := HK2.out; have := HJ16.out; first | omega | exact Nat.le_refl _⟩, ⟨by (with_reducible repeat (first | refine blk_drewN ?_ _ | refine blk_drew ?_ | refine blk_alloc ?_ _)); refine blk_far ?_ NB276_293.out _; (with_reducible repeat (first | refine blk_drewN ?_ _ | refine blk_drew ?_ | refine blk_alloc ?_ _)); refine blk_far ?_ NB276_293.out _; (with_reducible repeat (first | refine blk_drewN ?_ _ | refine blk_drew ?_ | refine blk_alloc ?_ _)); exact BK276.out⟩, ⟨by (with_reducible repeat (first | refine blk_drewN ?_ _ | refine blk_drew ?_ | refine blk_alloc ?_ _)); refine blk_far ?_ NB280_293.out _; (with_reducible repeat (first | refine blk_drewN ?_ _ | refine blk_drew ?_ | refine blk_alloc ?_ _)); refine blk_far ?_ NB280_293.out _; (with_reducible repeat (first | refine blk_drewN ?_ _ | refine blk_drew ?_ | refine blk_alloc ?_ _)); exact BK280.out⟩, ⟨by (with_reducible repeat (first | refine blk_drewN ?_ _ | refine blk_drew ?_ | refine blk_alloc ?_ _)); refine blk_put (cs := #[.int .i64 t289, .int .i64 0]) ?_ 1 _ rfl; (with_reducible repeat (first | refine blk_drewN ?_ _ | refine blk_drew ?_ | refine blk_alloc ?_ _)); refine blk_put (cs := #[.int .i64 0, .int .i64 0]) ?_ 0 _ rfl; (with_reducible repeat (first | refine blk_drewN ?_ _ | refine blk_drew ?_ | refine blk_alloc ?_ _)); exact BK293.out⟩, ⟨by repeat (first | (with_reducible first | exact HB.out | apply below_alloc | apply pw_below_drewN | apply below_drew1 | refine below_set ?_ GE276.out | refine below_set ?_ GE280.out | refine below_set ?_ GE293.out) | exact HB.out)⟩⟩
                      case rest =>
                        clear HC39
                        try clear c1
                        try clear c2
                        try clear p2
                        try clear q2
                        try clear hx2
                        try clear c3
                        try clear c4
                        try clear c6
                        try clear p6
                        try clear c9
                        try clear c11
                        try clear c11b0
                        try clear c11b1
                        try clear c12
                        try clear c15
                        try clear c15b0
                        try clear c16
                        try clear c16b0
                        try clear c17
                        try clear c18
                        try clear c18b0
                        try clear c19
                        try clear c20
                        try clear c22
                        try clear c27
                        try clear c28
                        try clear p28
                        try clear q28
                        try clear hx28
                        try clear c30
                        try clear c30b0
                        try clear c30b1
                        try clear c31
                        try clear c32
                        try clear c33
                        try clear c34
                        try clear c36
                        try clear c40
                        try clear c45
                        try clear c46
                        try clear c48
                        try clear c48b0
                        try clear c48b1
                        try clear hcz10_0
                        try clear hcz10_1
                        try clear hcz23_0
                        try clear hcz23_1
                        try clear hcz23_10
                        try clear hcz23_2
                        try clear hcz23_3
                        try clear hcz23_4
                        try clear hcz23_5
                        try clear hcz23_6
                        try clear hcz23_7
                        try clear hcz23_8
                        try clear hcz23_9
                        try clear hcz24_0
                        try clear hcz24_1
                        try clear hcz29_0
                        try clear hcz29_1
                        try clear hcz35_0
                        try clear hcz35_1
                        try clear hcz37_0
                        try clear hcz37_1
                        try clear hcz41_0
                        try clear hcz41_1
                        try clear hcz41_10
                        try clear hcz41_2
                        try clear hcz41_3
                        try clear hcz41_4
                        try clear hcz41_5
                        try clear hcz41_6
                        try clear hcz41_7
                        try clear hcz41_8
                        try clear hcz41_9
                        try clear hcz42_0
                        try clear hcz42_1
                        try clear hcz47_0
                        try clear hcz47_1
                        try clear hcz6_0
                        try clear hcz6_1
                        try clear hcz6_10
                        try clear hcz6_2
                        try clear hcz6_3
                        try clear hcz6_4
                        try clear hcz6_5
                        try clear hcz6_6
                        try clear hcz6_7
                        try clear hcz6_8
                        try clear hcz6_9
                        try clear hfz10_0
                        try clear hfz10_1
                        try clear hfz23_0
                        try clear hfz23_1
                        try clear hfz23_10
                        try clear hfz23_2
                        try clear hfz23_3
                        try clear hfz23_4
                        try clear hfz23_5
                        try clear hfz23_6
                        try clear hfz23_7
                        try clear hfz23_8
                        try clear hfz23_9
                        try clear hfz24_0
                        try clear hfz24_1
                        try clear hfz29_0
                        try clear hfz29_1
                        try clear hfz35_0
                        try clear hfz35_1
                        try clear hfz37_0
                        try clear hfz37_1
                        try clear hfz41_0
                        try clear hfz41_1
                        try clear hfz41_10
                        try clear hfz41_2
                        try clear hfz41_3
                        try clear hfz41_4
                        try clear hfz41_5
                        try clear hfz41_6
                        try clear hfz41_7
                        try clear hfz41_8
                        try clear hfz41_9
                        try clear hfz42_0
                        try clear hfz42_1
                        try clear hfz47_0
                        try clear hfz47_1
                        try clear hfz6_0
                        try clear hfz6_1
                        try clear hfz6_10
                        try clear hfz6_2
                        try clear hfz6_3
                        try clear hfz6_4
                        try clear hfz6_5
                        try clear hfz6_6
                        try clear hfz6_7
                        try clear hfz6_8
                        try clear hfz6_9
                        try clear hx283_0
                        try clear p2
                        try clear p28
                        try clear p283
                        try clear p6
                        try clear q2
                        try clear q28
                        try clear q283
                        obtain ⟨kq, x77_38, rfl, HA, HJ38, BK276, BK280, BK293, HB⟩ := hcut
                        cases kq with
                        | zero => exact absurd HA.out (by simp [gatelinelaw23_JourneyCounts.j4])
                        | succ kj38 =>
                          have H := HA.out
                          clear HA
                          simp only [gatelinelaw23_JourneyCounts.j4] at H
                          by_cases c49 : x77_38 = true
                          · subst c49
                            have H1 : (if x8_2 = true then (some false) else (gatelinelaw23_JourneyCounts.l0 kj38 l1 (wrap64 (x7_2 + 1)) true (wrap64 (x9_2 + 1)) a0_0 a0_1 a0_2 a0_3 a0_4 a0_5 a0_6 a0_7 a0_8 a0_9 a0_10 t289 t290)) = some r := by rw [if_pos rfl] at H; exact H
                            clear H
                            have H := H1
                            clear H1
                            by_cases c50 : x8_2 = true
                            · subst c50
                              have H1 : (some false) = some r := by rw [if_pos rfl] at H; exact H
                              clear H
                              have H := H1
                              clear H1
                              obtain rfl := Option.some.inj H
                              go_wp2
                              go_ret
                              exact ⟨by first | rfl | (simp [errW_none, errW_some] <;> rfl) | (simp [*, errW_none, errW_some] <;> rfl), by repeat (first | (with_reducible first | exact HB.out | apply below_alloc | apply pw_below_drewN | apply below_drew1 | refine below_set ?_ GE276.out | refine below_set ?_ GE280.out | refine below_set ?_ GE293.out) | exact HB.out)⟩
                            · replace c50 := Bool.eq_false_iff.mpr c50
                              subst c50
                              have H1 : (gatelinelaw23_JourneyCounts.l0 kj38 l1 (wrap64 (x7_2 + 1)) true (wrap64 (x9_2 + 1)) a0_0 a0_1 a0_2 a0_3 a0_4 a0_5 a0_6 a0_7 a0_8 a0_9 a0_10 t289 t290) = some r := by rw [if_neg (show ¬ (false = true) by decide)] at H; exact H
                              clear H
                              have H := H1
                              clear H1
                              have H' := Aside0.mk H
                              clear H
                              have hnb51 := NB293_276.out
                              have hnc51 := NB276_293.out
                              have hnb52 := NB293_280.out
                              have hnc52 := NB280_293.out
                              have hcz53_0 : wc.cell? ⟨gb293, 0, none⟩ = some (.int .i64 t289) := (blk_cell BK293.out 0).trans rfl
                              have hcz53_1 : wc.cell? ⟨gb293, 1, none⟩ = some (.int .i64 t290) := (blk_cell BK293.out 1).trans rfl
                              have hfz53_0 := blk_frozen BK293.out 0
                              have hfz53_1 := blk_frozen BK293.out 1
                              have hnb54 := NB280_276.out
                              have hnc54 := NB276_280.out
                              have hcz55_0 : wc.cell? ⟨gb280, 0, none⟩ = some (.int .i64 x281000_2) := (blk_cell BK280.out 0).trans rfl
                              have hcz55_1 : wc.cell? ⟨gb280, 1, none⟩ = some (.int .i64 x281001_2) := (blk_cell BK280.out 1).trans rfl
                              have hfz55_0 := blk_frozen BK280.out 0
                              have hfz55_1 := blk_frozen BK280.out 1
                              go_wp2
                              go_roundg kj38
                              case measure => have := HJ3.out; have := HK2.out; have := HJ16.out; have := HJ38.out; omega
                              case rel => exact ⟨(wrap64 (x7_2 + 1)), (true), (wrap64 (x9_2 + 1)), (t289), (t290), (by first | rfl | (simp; done) | (simp [*]; done)), (by first | rfl | (simp; done) | (simp [*]; done)), (by first | rfl | (simp; done) | (simp [*]; done)), H', ⟨by have := HJ3.out; have := HK2.out; have := HJ16.out; have := HJ38.out; omega⟩, ⟨by (with_reducible repeat (first | refine blk_drewN ?_ _ | refine blk_drew ?_ | refine blk_alloc ?_ _)); refine blk_far ?_ NB276_280.out _; (with_reducible repeat (first | refine blk_drewN ?_ _ | refine blk_drew ?_ | refine blk_alloc ?_ _)); refine blk_far ?_ NB276_280.out _; (with_reducible repeat (first | refine blk_drewN ?_ _ | refine blk_drew ?_ | refine blk_alloc ?_ _)); exact BK276.out⟩, ⟨by (with_reducible repeat (first | refine blk_drewN ?_ _ | refine blk_drew ?_ | refine blk_alloc ?_ _)); refine blk_put (cs := #[.int .i64 t289, .int .i64 x281001_2]) ?_ 1 _ rfl; (with_reducible repeat (first | refine blk_drewN ?_ _ | refine blk_drew ?_ | refine blk_alloc ?_ _)); refine blk_put (cs := #[.int .i64 x281000_2, .int .i64 x281001_2]) ?_ 0 _ rfl; (with_reducible repeat (first | refine blk_drewN ?_ _ | refine blk_drew ?_ | refine blk_alloc ?_ _)); exact BK280.out⟩, ⟨by repeat (first | (with_reducible first | exact HB.out | apply below_alloc | apply pw_below_drewN | apply below_drew1 | refine below_set ?_ GE276.out | refine below_set ?_ GE280.out | refine below_set ?_ GE293.out) | exact HB.out)⟩⟩
                          · replace c49 := Bool.eq_false_iff.mpr c49
                            subst c49
                            have H1 : (gatelinelaw23_JourneyCounts.l0 kj38 l1 x7_2 x8_2 (wrap64 (x9_2 + 1)) a0_0 a0_1 a0_2 a0_3 a0_4 a0_5 a0_6 a0_7 a0_8 a0_9 a0_10 x281000_2 x281001_2) = some r := by rw [if_neg (show ¬ (false = true) by decide)] at H; exact H
                            clear H
                            have H := H1
                            clear H1
                            have H' := Aside0.mk H
                            clear H
                            go_wp2
                            go_roundg kj38
                            case measure => have := HJ3.out; have := HK2.out; have := HJ16.out; have := HJ38.out; omega
                            case rel => exact ⟨(x7_2), (x8_2), (wrap64 (x9_2 + 1)), (x281000_2), (x281001_2), (by first | rfl | (simp; done) | (simp [*]; done)), (by first | rfl | (simp; done) | (simp [*]; done)), (by first | rfl | (simp; done) | (simp [*]; done)), H', ⟨by have := HJ3.out; have := HK2.out; have := HJ16.out; have := HJ38.out; omega⟩, ⟨by (with_reducible repeat (first | refine blk_drewN ?_ _ | refine blk_drew ?_ | refine blk_alloc ?_ _)); exact BK276.out⟩, ⟨by (with_reducible repeat (first | refine blk_drewN ?_ _ | refine blk_drew ?_ | refine blk_alloc ?_ _)); exact BK280.out⟩, ⟨by repeat (first | (with_reducible first | exact HB.out | apply below_alloc | apply pw_below_drewN | apply below_drew1 | refine below_set ?_ GE276.out | refine below_set ?_ GE280.out | refine below_set ?_ GE293.out) | exact HB.out)⟩⟩
              · rw [if_neg c16] at H
                exact absurd H (by simp)
            · rw [if_neg c15] at H
              have c15b0 : decide (x9_2 < (l1.length : Int)) = false := decide_eq_false c15
              clear c15
              replace H := Option.bind_eq_some_iff.mp H
              obtain ⟨t282, A560, H⟩ := H
              replace H : (if t282 = true then (if a0_1 = 3 then (some (x8_2 == (x281001_2 != 0))) else (if x7_2 ≤ a0_9 then (if x281000_2 = (wrap64 (a0_9 - x7_2)) then (some (x8_2 == (x281001_2 != 0))) else (some false)) else (some false))) else (some false)) = some r := H
              have A56 := Aside0.mk A560
              clear A560
              by_cases c57 : t282 = true
              · subst c57
                have H1 : (if a0_1 = 3 then (some (x8_2 == (x281001_2 != 0))) else (if x7_2 ≤ a0_9 then (if x281000_2 = (wrap64 (a0_9 - x7_2)) then (some (x8_2 == (x281001_2 != 0))) else (some false)) else (some false))) = some r := by rw [if_pos rfl] at H; exact H
                clear H
                have H := H1
                clear H1
                by_cases c58 : a0_1 = 3
                · rw [if_pos c58] at H
                  have c58b0 : (a0_1 == 3) = true := beq_iff_eq.mpr c58
                  have c58b1 : (a0_1 != 3) = false := bne_eq_false_iff_eq.mpr c58
                  clear c58
                  obtain rfl := Option.some.inj H
                  go_wp2_with (first | ((with_reducible refine gate_callee (f := 19) rfl ?_); refine goesL_ (some 82) rfl rfl Try.func19 (by kernel_rfl) rfl #[] rfl (by (try simp only [List.map_toArray, List.map_cons, List.map_nil]); first | done | rfl | (simp only [List.length_drop, List.length_take]; rfl)) ?_; (with_reducible refine (gatelinelaw23_gone.calls  true _ A56.out).mono ?_); rintro e w59 ⟨rfl, hb⟩; refine ⟨_, rfl, ?_⟩; have n0_ := Aside0.mk (blk_below (g := gb276) (o := .cells #[.int .i64 a0_0, .int .i64 a0_1, .int .i64 a0_2, .int .i64 a0_3, .int .i64 a0_4, .int .i64 a0_5, .int .i64 a0_6, .int .i64 a0_7, .int .i64 a0_8, .int .i64 a0_9, .int .i64 a0_10] 23 (0, 0)) (by (with_reducible repeat (first | refine blk_drewN ?_ _ | refine blk_drew ?_ | refine blk_alloc ?_ _)); exact BK276.out) hb); have n1_ := Aside0.mk (blk_below (g := gb280) (o := .cells #[.int .i64 x281000_2, .int .i64 x281001_2] 25 (0, 0)) (by (with_reducible repeat (first | refine blk_drewN ?_ _ | refine blk_drew ?_ | refine blk_alloc ?_ _)); exact BK280.out) hb); have n2_ := Aside0.mk (below_step (by repeat (first | (with_reducible first | exact HB.out | apply below_alloc | apply pw_below_drewN | apply below_drew1 | refine below_set ?_ GE276.out | refine below_set ?_ GE280.out) | exact HB.out)) hb); clear BK276; clear BK280; clear HB; have BK276 := n0_; have BK280 := n1_; have HB := n2_; clear n0_ n1_ n2_; (try clear hb); (try clear hb2); (try clear hk); (try clear hi); (try clear A56); have hnb60 := NB276_280.out; have hnc60 := NB280_276.out; have hcz61_0 : w59.cell? ⟨gb276, 0, none⟩ = some (.int .i64 a0_0) := (blk_cell BK276.out 0).trans rfl; have hcz61_1 : w59.cell? ⟨gb276, 1, none⟩ = some (.int .i64 a0_1) := (blk_cell BK276.out 1).trans rfl; have hcz61_2 : w59.cell? ⟨gb276, 2, none⟩ = some (.int .i64 a0_2) := (blk_cell BK276.out 2).trans rfl; have hcz61_3 : w59.cell? ⟨gb276, 3, none⟩ = some (.int .i64 a0_3) := (blk_cell BK276.out 3).trans rfl; have hcz61_4 : w59.cell? ⟨gb276, 4, none⟩ = some (.int .i64 a0_4) := (blk_cell BK276.out 4).trans rfl; have hcz61_5 : w59.cell? ⟨gb276, 5, none⟩ = some (.int .i64 a0_5) := (blk_cell BK276.out 5).trans rfl; have hcz61_6 : w59.cell? ⟨gb276, 6, none⟩ = some (.int .i64 a0_6) := (blk_cell BK276.out 6).trans rfl; have hcz61_7 : w59.cell? ⟨gb276, 7, none⟩ = some (.int .i64 a0_7) := (blk_cell BK276.out 7).trans rfl; have hcz61_8 : w59.cell? ⟨gb276, 8, none⟩ = some (.int .i64 a0_8) := (blk_cell BK276.out 8).trans rfl; have hcz61_9 : w59.cell? ⟨gb276, 9, none⟩ = some (.int .i64 a0_9) := (blk_cell BK276.out 9).trans rfl; have hcz61_10 : w59.cell? ⟨gb276, 10, none⟩ = some (.int .i64 a0_10) := (blk_cell BK276.out 10).trans rfl; have hfz61_0 := blk_frozen BK276.out 0; have hfz61_1 := blk_frozen BK276.out 1; have hfz61_2 := blk_frozen BK276.out 2; have hfz61_3 := blk_frozen BK276.out 3; have hfz61_4 := blk_frozen BK276.out 4; have hfz61_5 := blk_frozen BK276.out 5; have hfz61_6 := blk_frozen BK276.out 6; have hfz61_7 := blk_frozen BK276.out 7; have hfz61_8 := blk_frozen BK276.out 8; have hfz61_9 := blk_frozen BK276.out 9; have hfz61_10 := blk_frozen BK276.out 10; have hcz62_0 : w59.cell? ⟨gb280, 0, none⟩ = some (.int .i64 x281000_2) := (blk_cell BK280.out 0).trans rfl; have hcz62_1 : w59.cell? ⟨gb280, 1, none⟩ = some (.int .i64 x281001_2) := (blk_cell BK280.out 1).trans rfl; have hfz62_0 := blk_frozen BK280.out 0; have hfz62_1 := blk_frozen BK280.out 1))
                  go_ret
                  exact ⟨by first | rfl | (simp [errW_none, errW_some] <;> rfl) | (simp [*, errW_none, errW_some] <;> rfl), by repeat (first | (with_reducible first | exact HB.out | apply below_alloc | apply pw_below_drewN | apply below_drew1 | refine below_set ?_ GE276.out | refine below_set ?_ GE280.out) | exact HB.out)⟩
                · rw [if_neg c58] at H
                  have c58b0 : (a0_1 == 3) = false := beq_eq_false_iff_ne.mpr c58
                  have c58b1 : (a0_1 != 3) = true := bne_iff_ne.mpr c58
                  by_cases c63 : x7_2 ≤ a0_9
                  · rw [if_pos c63] at H
                    have c63b0 : decide (x7_2 ≤ a0_9) = true := decide_eq_true c63
                    clear c63
                    by_cases c64 : x281000_2 = (wrap64 (a0_9 - x7_2))
                    · rw [if_pos c64] at H
                      have c64b0 : (x281000_2 == (wrap64 (a0_9 - x7_2))) = true := beq_iff_eq.mpr c64
                      have c64b1 : (x281000_2 != (wrap64 (a0_9 - x7_2))) = false := bne_eq_false_iff_eq.mpr c64
                      clear c64
                      obtain rfl := Option.some.inj H
                      go_wp2_with (first | ((with_reducible refine gate_callee (f := 19) rfl ?_); refine goesL_ (some 82) rfl rfl Try.func19 (by kernel_rfl) rfl #[] rfl (by (try simp only [List.map_toArray, List.map_cons, List.map_nil]); first | done | rfl | (simp only [List.length_drop, List.length_take]; rfl)) ?_; (with_reducible refine (gatelinelaw23_gone.calls  true _ A56.out).mono ?_); rintro e w65 ⟨rfl, hb⟩; refine ⟨_, rfl, ?_⟩; have n0_ := Aside0.mk (blk_below (g := gb276) (o := .cells #[.int .i64 a0_0, .int .i64 a0_1, .int .i64 a0_2, .int .i64 a0_3, .int .i64 a0_4, .int .i64 a0_5, .int .i64 a0_6, .int .i64 a0_7, .int .i64 a0_8, .int .i64 a0_9, .int .i64 a0_10] 23 (0, 0)) (by (with_reducible repeat (first | refine blk_drewN ?_ _ | refine blk_drew ?_ | refine blk_alloc ?_ _)); exact BK276.out) hb); have n1_ := Aside0.mk (blk_below (g := gb280) (o := .cells #[.int .i64 x281000_2, .int .i64 x281001_2] 25 (0, 0)) (by (with_reducible repeat (first | refine blk_drewN ?_ _ | refine blk_drew ?_ | refine blk_alloc ?_ _)); exact BK280.out) hb); have n2_ := Aside0.mk (below_step (by repeat (first | (with_reducible first | exact HB.out | apply below_alloc | apply pw_below_drewN | apply below_drew1 | refine below_set ?_ GE276.out | refine below_set ?_ GE280.out) | exact HB.out)) hb); clear BK276; clear BK280; clear HB; have BK276 := n0_; have BK280 := n1_; have HB := n2_; clear n0_ n1_ n2_; (try clear hb); (try clear hb2); (try clear hk); (try clear hi); (try clear A56); have hnb66 := NB276_280.out; have hnc66 := NB280_276.out; have hcz67_0 : w65.cell? ⟨gb276, 0, none⟩ = some (.int .i64 a0_0) := (blk_cell BK276.out 0).trans rfl; have hcz67_1 : w65.cell? ⟨gb276, 1, none⟩ = some (.int .i64 a0_1) := (blk_cell BK276.out 1).trans rfl; have hcz67_2 : w65.cell? ⟨gb276, 2, none⟩ = some (.int .i64 a0_2) := (blk_cell BK276.out 2).trans rfl; have hcz67_3 : w65.cell? ⟨gb276, 3, none⟩ = some (.int .i64 a0_3) := (blk_cell BK276.out 3).trans rfl; have hcz67_4 : w65.cell? ⟨gb276, 4, none⟩ = some (.int .i64 a0_4) := (blk_cell BK276.out 4).trans rfl; have hcz67_5 : w65.cell? ⟨gb276, 5, none⟩ = some (.int .i64 a0_5) := (blk_cell BK276.out 5).trans rfl; have hcz67_6 : w65.cell? ⟨gb276, 6, none⟩ = some (.int .i64 a0_6) := (blk_cell BK276.out 6).trans rfl; have hcz67_7 : w65.cell? ⟨gb276, 7, none⟩ = some (.int .i64 a0_7) := (blk_cell BK276.out 7).trans rfl; have hcz67_8 : w65.cell? ⟨gb276, 8, none⟩ = some (.int .i64 a0_8) := (blk_cell BK276.out 8).trans rfl; have hcz67_9 : w65.cell? ⟨gb276, 9, none⟩ = some (.int .i64 a0_9) := (blk_cell BK276.out 9).trans rfl; have hcz67_10 : w65.cell? ⟨gb276, 10, none⟩ = some (.int .i64 a0_10) := (blk_cell BK276.out 10).trans rfl; have hfz67_0 := blk_frozen BK276.out 0; have hfz67_1 := blk_frozen BK276.out 1; have hfz67_2 := blk_frozen BK276.out 2; have hfz67_3 := blk_frozen BK276.out 3; have hfz67_4 := blk_frozen BK276.out 4; have hfz67_5 := blk_frozen BK276.out 5; have hfz67_6 := blk_frozen BK276.out 6; have hfz67_7 := blk_frozen BK276.out 7; have hfz67_8 := blk_frozen BK276.out 8; have hfz67_9 := blk_frozen BK276.out 9; have hfz67_10 := blk_frozen BK276.out 10; have hcz68_0 : w65.cell? ⟨gb280, 0, none⟩ = some (.int .i64 x281000_2) := (blk_cell BK280.out 0).trans rfl; have hcz68_1 : w65.cell? ⟨gb280, 1, none⟩ = some (.int .i64 x281001_2) := (blk_cell BK280.out 1).trans rfl; have hfz68_0 := blk_frozen BK280.out 0; have hfz68_1 := blk_frozen BK280.out 1))
                      go_ret
                      exact ⟨by first | rfl | (simp [errW_none, errW_some] <;> rfl) | (simp [*, errW_none, errW_some] <;> rfl), by repeat (first | (with_reducible first | exact HB.out | apply below_alloc | apply pw_below_drewN | apply below_drew1 | refine below_set ?_ GE276.out | refine below_set ?_ GE280.out) | exact HB.out)⟩
                    · rw [if_neg c64] at H
                      have c64b0 : (x281000_2 == (wrap64 (a0_9 - x7_2))) = false := beq_eq_false_iff_ne.mpr c64
                      have c64b1 : (x281000_2 != (wrap64 (a0_9 - x7_2))) = true := bne_iff_ne.mpr c64
                      obtain rfl := Option.some.inj H
                      go_wp2_with (first | ((with_reducible refine gate_callee (f := 19) rfl ?_); refine goesL_ (some 82) rfl rfl Try.func19 (by kernel_rfl) rfl #[] rfl (by (try simp only [List.map_toArray, List.map_cons, List.map_nil]); first | done | rfl | (simp only [List.length_drop, List.length_take]; rfl)) ?_; (with_reducible refine (gatelinelaw23_gone.calls  true _ A56.out).mono ?_); rintro e w69 ⟨rfl, hb⟩; refine ⟨_, rfl, ?_⟩; have n0_ := Aside0.mk (blk_below (g := gb276) (o := .cells #[.int .i64 a0_0, .int .i64 a0_1, .int .i64 a0_2, .int .i64 a0_3, .int .i64 a0_4, .int .i64 a0_5, .int .i64 a0_6, .int .i64 a0_7, .int .i64 a0_8, .int .i64 a0_9, .int .i64 a0_10] 23 (0, 0)) (by (with_reducible repeat (first | refine blk_drewN ?_ _ | refine blk_drew ?_ | refine blk_alloc ?_ _)); exact BK276.out) hb); have n1_ := Aside0.mk (blk_below (g := gb280) (o := .cells #[.int .i64 x281000_2, .int .i64 x281001_2] 25 (0, 0)) (by (with_reducible repeat (first | refine blk_drewN ?_ _ | refine blk_drew ?_ | refine blk_alloc ?_ _)); exact BK280.out) hb); have n2_ := Aside0.mk (below_step (by repeat (first | (with_reducible first | exact HB.out | apply below_alloc | apply pw_below_drewN | apply below_drew1 | refine below_set ?_ GE276.out | refine below_set ?_ GE280.out) | exact HB.out)) hb); clear BK276; clear BK280; clear HB; have BK276 := n0_; have BK280 := n1_; have HB := n2_; clear n0_ n1_ n2_; (try clear hb); (try clear hb2); (try clear hk); (try clear hi); (try clear A56); have hnb70 := NB276_280.out; have hnc70 := NB280_276.out; have hcz71_0 : w69.cell? ⟨gb276, 0, none⟩ = some (.int .i64 a0_0) := (blk_cell BK276.out 0).trans rfl; have hcz71_1 : w69.cell? ⟨gb276, 1, none⟩ = some (.int .i64 a0_1) := (blk_cell BK276.out 1).trans rfl; have hcz71_2 : w69.cell? ⟨gb276, 2, none⟩ = some (.int .i64 a0_2) := (blk_cell BK276.out 2).trans rfl; have hcz71_3 : w69.cell? ⟨gb276, 3, none⟩ = some (.int .i64 a0_3) := (blk_cell BK276.out 3).trans rfl; have hcz71_4 : w69.cell? ⟨gb276, 4, none⟩ = some (.int .i64 a0_4) := (blk_cell BK276.out 4).trans rfl; have hcz71_5 : w69.cell? ⟨gb276, 5, none⟩ = some (.int .i64 a0_5) := (blk_cell BK276.out 5).trans rfl; have hcz71_6 : w69.cell? ⟨gb276, 6, none⟩ = some (.int .i64 a0_6) := (blk_cell BK276.out 6).trans rfl; have hcz71_7 : w69.cell? ⟨gb276, 7, none⟩ = some (.int .i64 a0_7) := (blk_cell BK276.out 7).trans rfl; have hcz71_8 : w69.cell? ⟨gb276, 8, none⟩ = some (.int .i64 a0_8) := (blk_cell BK276.out 8).trans rfl; have hcz71_9 : w69.cell? ⟨gb276, 9, none⟩ = some (.int .i64 a0_9) := (blk_cell BK276.out 9).trans rfl; have hcz71_10 : w69.cell? ⟨gb276, 10, none⟩ = some (.int .i64 a0_10) := (blk_cell BK276.out 10).trans rfl; have hfz71_0 := blk_frozen BK276.out 0; have hfz71_1 := blk_frozen BK276.out 1; have hfz71_2 := blk_frozen BK276.out 2; have hfz71_3 := blk_frozen BK276.out 3; have hfz71_4 := blk_frozen BK276.out 4; have hfz71_5 := blk_frozen BK276.out 5; have hfz71_6 := blk_frozen BK276.out 6; have hfz71_7 := blk_frozen BK276.out 7; have hfz71_8 := blk_frozen BK276.out 8; have hfz71_9 := blk_frozen BK276.out 9; have hfz71_10 := blk_frozen BK276.out 10; have hcz72_0 : w69.cell? ⟨gb280, 0, none⟩ = some (.int .i64 x281000_2) := (blk_cell BK280.out 0).trans rfl; have hcz72_1 : w69.cell? ⟨gb280, 1, none⟩ = some (.int .i64 x281001_2) := (blk_cell BK280.out 1).trans rfl; have hfz72_0 := blk_frozen BK280.out 0; have hfz72_1 := blk_frozen BK280.out 1))
                      go_ret
                      exact ⟨by first | rfl | (simp [errW_none, errW_some] <;> rfl) | (simp [*, errW_none, errW_some] <;> rfl), by repeat (first | (with_reducible first | exact HB.out | apply below_alloc | apply pw_below_drewN | apply below_drew1 | refine below_set ?_ GE276.out | refine below_set ?_ GE280.out) | exact HB.out)⟩
                  · rw [if_neg c63] at H
                    have c63b0 : decide (x7_2 ≤ a0_9) = false := decide_eq_false c63
                    clear c63
                    obtain rfl := Option.some.inj H
                    go_wp2_with (first | ((with_reducible refine gate_callee (f := 19) rfl ?_); refine goesL_ (some 82) rfl rfl Try.func19 (by kernel_rfl) rfl #[] rfl (by (try simp only [List.map_toArray, List.map_cons, List.map_nil]); first | done | rfl | (simp only [List.length_drop, List.length_take]; rfl)) ?_; (with_reducible refine (gatelinelaw23_gone.calls  true _ A56.out).mono ?_); rintro e w73 ⟨rfl, hb⟩; refine ⟨_, rfl, ?_⟩; have n0_ := Aside0.mk (blk_below (g := gb276) (o := .cells #[.int .i64 a0_0, .int .i64 a0_1, .int .i64 a0_2, .int .i64 a0_3, .int .i64 a0_4, .int .i64 a0_5, .int .i64 a0_6, .int .i64 a0_7, .int .i64 a0_8, .int .i64 a0_9, .int .i64 a0_10] 23 (0, 0)) (by (with_reducible repeat (first | refine blk_drewN ?_ _ | refine blk_drew ?_ | refine blk_alloc ?_ _)); exact BK276.out) hb); have n1_ := Aside0.mk (blk_below (g := gb280) (o := .cells #[.int .i64 x281000_2, .int .i64 x281001_2] 25 (0, 0)) (by (with_reducible repeat (first | refine blk_drewN ?_ _ | refine blk_drew ?_ | refine blk_alloc ?_ _)); exact BK280.out) hb); have n2_ := Aside0.mk (below_step (by repeat (first | (with_reducible first | exact HB.out | apply below_alloc | apply pw_below_drewN | apply below_drew1 | refine below_set ?_ GE276.out | refine below_set ?_ GE280.out) | exact HB.out)) hb); clear BK276; clear BK280; clear HB; have BK276 := n0_; have BK280 := n1_; have HB := n2_; clear n0_ n1_ n2_; (try clear hb); (try clear hb2); (try clear hk); (try clear hi); (try clear A56); have hnb74 := NB276_280.out; have hnc74 := NB280_276.out; have hcz75_0 : w73.cell? ⟨gb276, 0, none⟩ = some (.int .i64 a0_0) := (blk_cell BK276.out 0).trans rfl; have hcz75_1 : w73.cell? ⟨gb276, 1, none⟩ = some (.int .i64 a0_1) := (blk_cell BK276.out 1).trans rfl; have hcz75_2 : w73.cell? ⟨gb276, 2, none⟩ = some (.int .i64 a0_2) := (blk_cell BK276.out 2).trans rfl; have hcz75_3 : w73.cell? ⟨gb276, 3, none⟩ = some (.int .i64 a0_3) := (blk_cell BK276.out 3).trans rfl; have hcz75_4 : w73.cell? ⟨gb276, 4, none⟩ = some (.int .i64 a0_4) := (blk_cell BK276.out 4).trans rfl; have hcz75_5 : w73.cell? ⟨gb276, 5, none⟩ = some (.int .i64 a0_5) := (blk_cell BK276.out 5).trans rfl; have hcz75_6 : w73.cell? ⟨gb276, 6, none⟩ = some (.int .i64 a0_6) := (blk_cell BK276.out 6).trans rfl; have hcz75_7 : w73.cell? ⟨gb276, 7, none⟩ = some (.int .i64 a0_7) := (blk_cell BK276.out 7).trans rfl; have hcz75_8 : w73.cell? ⟨gb276, 8, none⟩ = some (.int .i64 a0_8) := (blk_cell BK276.out 8).trans rfl; have hcz75_9 : w73.cell? ⟨gb276, 9, none⟩ = some (.int .i64 a0_9) := (blk_cell BK276.out 9).trans rfl; have hcz75_10 : w73.cell? ⟨gb276, 10, none⟩ = some (.int .i64 a0_10) := (blk_cell BK276.out 10).trans rfl; have hfz75_0 := blk_frozen BK276.out 0; have hfz75_1 := blk_frozen BK276.out 1; have hfz75_2 := blk_frozen BK276.out 2; have hfz75_3 := blk_frozen BK276.out 3; have hfz75_4 := blk_frozen BK276.out 4; have hfz75_5 := blk_frozen BK276.out 5; have hfz75_6 := blk_frozen BK276.out 6; have hfz75_7 := blk_frozen BK276.out 7; have hfz75_8 := blk_frozen BK276.out 8; have hfz75_9 := blk_frozen BK276.out 9; have hfz75_10 := blk_frozen BK276.out 10))
                    go_ret
                    exact ⟨by first | rfl | (simp [errW_none, errW_some] <;> rfl) | (simp [*, errW_none, errW_some] <;> rfl), by repeat (first | (with_reducible first | exact HB.out | apply below_alloc | apply pw_below_drewN | apply below_drew1 | refine below_set ?_ GE276.out | refine below_set ?_ GE280.out) | exact HB.out)⟩
              · replace c57 := Bool.eq_false_iff.mpr c57
                subst c57
                have H1 : (some false) = some r := by rw [if_neg (show ¬ (false = true) by decide)] at H; exact H
                clear H
                have H := H1
                clear H1
                obtain rfl := Option.some.inj H
                go_wp2_with (first | ((with_reducible refine gate_callee (f := 19) rfl ?_); refine goesL_ (some 82) rfl rfl Try.func19 (by kernel_rfl) rfl #[] rfl (by (try simp only [List.map_toArray, List.map_cons, List.map_nil]); first | done | rfl | (simp only [List.length_drop, List.length_take]; rfl)) ?_; (with_reducible refine (gatelinelaw23_gone.calls  false _ A56.out).mono ?_); rintro e w76 ⟨rfl, hb⟩; refine ⟨_, rfl, ?_⟩; have n0_ := Aside0.mk (blk_below (g := gb276) (o := .cells #[.int .i64 a0_0, .int .i64 a0_1, .int .i64 a0_2, .int .i64 a0_3, .int .i64 a0_4, .int .i64 a0_5, .int .i64 a0_6, .int .i64 a0_7, .int .i64 a0_8, .int .i64 a0_9, .int .i64 a0_10] 23 (0, 0)) (by (with_reducible repeat (first | refine blk_drewN ?_ _ | refine blk_drew ?_ | refine blk_alloc ?_ _)); exact BK276.out) hb); have n1_ := Aside0.mk (blk_below (g := gb280) (o := .cells #[.int .i64 x281000_2, .int .i64 x281001_2] 25 (0, 0)) (by (with_reducible repeat (first | refine blk_drewN ?_ _ | refine blk_drew ?_ | refine blk_alloc ?_ _)); exact BK280.out) hb); have n2_ := Aside0.mk (below_step (by repeat (first | (with_reducible first | exact HB.out | apply below_alloc | apply pw_below_drewN | apply below_drew1 | refine below_set ?_ GE276.out | refine below_set ?_ GE280.out) | exact HB.out)) hb); clear BK276; clear BK280; clear HB; have BK276 := n0_; have BK280 := n1_; have HB := n2_; clear n0_ n1_ n2_; (try clear hb); (try clear hb2); (try clear hk); (try clear hi); (try clear A56)))
                go_ret
                exact ⟨by first | rfl | (simp [errW_none, errW_some] <;> rfl) | (simp [*, errW_none, errW_some] <;> rfl), by repeat (first | (with_reducible first | exact HB.out | apply below_alloc | apply pw_below_drewN | apply below_drew1 | refine below_set ?_ GE276.out | refine below_set ?_ GE280.out) | exact HB.out)⟩

end Go.Proofs.Ytdiijjdhofaodaa.PL
