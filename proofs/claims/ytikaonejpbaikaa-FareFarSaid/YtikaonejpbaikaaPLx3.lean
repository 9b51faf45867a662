-- Written by the kit's print program with contracts that this session proved by hand given to it. Not trusted: Lean checks it.
import Derived.Test.YtikaonejpbaikaaPLx0
import Derived.Test.YtikaonejpbaikaaPLx1
namespace Go.Proofs.Ytikaonejpbaikaa.PL
open Go.RowKit Go.Proofs.YtikaonejpbaikaaW.PrintWords Go.Proofs.YtikaonejpbaikaaW.PrintLast Go.Proofs.YtikaonejpbaikaaW.PrintMore
attribute [local go_sem] max2_int min2_int max_two min_two max_three min_three max_four min_four   -- for this text's walks alone
set_option linter.unusedVariables false
set_option linter.unusedSimpArgs false

/-! ### gatelinelaw07_LineWays: function 5 -/
mutual
def gatelinelaw07_LineWays.j0 : Nat → Int → Int → Int → Bool → Int → Bool → Option (Bool)
  | 0, _, _, _, _, _, _ => none
  | k + 1, x0, x1, x2, x7, x8, x40 => if x40 = true then (some false) else ((line_Zones.f x0 x1).bind fun bt184 => ((line_Zones.f x1 x0).bind fun bt187 => ((line_Zone.f x2).bind fun bt190 => (if bt184.2.2 = bt187.2.2 then (if bt184.1 = bt187.1 then (gatelinelaw07_LineWays.j1 k x7 x8 bt184.1 bt184.2.1 bt184.2.2 bt190.1 bt190.2 (bt184.2.1 != bt187.2.1)) else (gatelinelaw07_LineWays.j1 k x7 x8 bt184.1 bt184.2.1 bt184.2.2 bt190.1 bt190.2 true)) else (gatelinelaw07_LineWays.j1 k x7 x8 bt184.1 bt184.2.1 bt184.2.2 bt190.1 bt190.2 true)))))
def gatelinelaw07_LineWays.j1 : Nat → Bool → Int → Int → Int → Int → Int → Int → Bool → Option (Bool)
  | 0, _, _, _, _, _, _, _, _ => none
  | k + 1, x7, x8, x11, x12, x13, x17, x18, x72 => if x72 = true then (some false) else (if x8 = 0 then (gatelinelaw07_LineWays.j2 k x11 x12 x13 x17 x18 (!x7)) else (gatelinelaw07_LineWays.j2 k x11 x12 x13 x17 x18 true))
def gatelinelaw07_LineWays.j2 : Nat → Int → Int → Int → Int → Int → Bool → Option (Bool)
  | 0, _, _, _, _, _, _ => none
  | k + 1, x11, x12, x13, x17, x18, x78 => if x78 = true then ((gatelinelaw07_lined.f k).bind fun t192 => (some t192)) else ((gatelinelaw07_lined.f k).bind fun t193 => (if t193 = true then (if x13 = 0 then (if x18 = 0 then (if x17 ≥ x11 then (some (decide (x17 ≤ x12))) else (some false)) else (some false)) else (some false)) else (some false)))
end
def gatelinelaw07_LineWays.f (k : Nat) (a0 : Int) (a1 : Int) (a2 : Int) : Option (Bool) := (line_Between.f a0 a1 a2).bind fun bt180 => ((line_Between.f a1 a0 a2).bind fun bt182 => (if bt180.2 = bt182.2 then (gatelinelaw07_LineWays.j0 k a0 a1 a2 bt180.1 bt180.2 (bt180.1 != bt182.1)) else (gatelinelaw07_LineWays.j0 k a0 a1 a2 bt180.1 bt180.2 true)))
theorem gatelinelaw07_LineWays.mono_l : ∀ k, (∀ y0 y1 y2 y3 y4 y5, LeO (gatelinelaw07_LineWays.j0 k y0 y1 y2 y3 y4 y5) (gatelinelaw07_LineWays.j0 (k + 1) y0 y1 y2 y3 y4 y5)) ∧ (∀ y0 y1 y2 y3 y4 y5 y6 y7, LeO (gatelinelaw07_LineWays.j1 k y0 y1 y2 y3 y4 y5 y6 y7) (gatelinelaw07_LineWays.j1 (k + 1) y0 y1 y2 y3 y4 y5 y6 y7)) ∧ (∀ y0 y1 y2 y3 y4 y5, LeO (gatelinelaw07_LineWays.j2 k y0 y1 y2 y3 y4 y5) (gatelinelaw07_LineWays.j2 (k + 1) y0 y1 y2 y3 y4 y5))
  | 0 => ⟨fun _ _ _ _ _ _ r h => by simp [gatelinelaw07_LineWays.j0] at h, fun _ _ _ _ _ _ _ _ r h => by simp [gatelinelaw07_LineWays.j1] at h, fun _ _ _ _ _ _ r h => by simp [gatelinelaw07_LineWays.j2] at h⟩
  | k + 1 => by
    obtain ⟨ih0, ih1, ih2⟩ := gatelinelaw07_LineWays.mono_l k
    refine ⟨?_, ?_, ?_⟩
    · intro y0 y1 y2 y3 y4 y5
      unfold gatelinelaw07_LineWays.j0
      repeat' first
      | (with_reducible exact ih0 _ _ _ _ _ _)
      | (with_reducible exact ih1 _ _ _ _ _ _ _ _)
      | (with_reducible exact ih2 _ _ _ _ _ _)
      | (with_reducible exact gatelinelaw07_lined.mono _)
      | (with_reducible exact LeO.refl _)
      | (with_reducible exact LeO.none _)
      | (with_reducible refine LeO.ite ?_ ?_)
      | (with_reducible refine LeO.bind ?_ (fun _ => ?_))
      | exact ih0 _ _ _ _ _ _
      | exact ih1 _ _ _ _ _ _ _ _
      | exact ih2 _ _ _ _ _ _
      | exact gatelinelaw07_lined.mono _
      | exact LeO.none _
      | refine LeO.ite ?_ ?_
      | refine LeO.bind ?_ (fun _ => ?_)
    · intro y0 y1 y2 y3 y4 y5 y6 y7
      unfold gatelinelaw07_LineWays.j1
      repeat' first
      | (with_reducible exact ih0 _ _ _ _ _ _)
      | (with_reducible exact ih1 _ _ _ _ _ _ _ _)
      | (with_reducible exact ih2 _ _ _ _ _ _)
      | (with_reducible exact gatelinelaw07_lined.mono _)
      | (with_reducible exact LeO.refl _)
      | (with_reducible exact LeO.none _)
      | (with_reducible refine LeO.ite ?_ ?_)
      | (with_reducible refine LeO.bind ?_ (fun _ => ?_))
      | exact ih0 _ _ _ _ _ _
      | exact ih1 _ _ _ _ _ _ _ _
      | exact ih2 _ _ _ _ _ _
      | exact gatelinelaw07_lined.mono _
      | exact LeO.none _
      | refine LeO.ite ?_ ?_
      | refine LeO.bind ?_ (fun _ => ?_)
    · intro y0 y1 y2 y3 y4 y5
      unfold gatelinelaw07_LineWays.j2
      repeat' first
      | (with_reducible exact ih0 _ _ _ _ _ _)
      | (with_reducible exact ih1 _ _ _ _ _ _ _ _)
      | (with_reducible exact ih2 _ _ _ _ _ _)
      | (with_reducible exact gatelinelaw07_lined.mono _)
      | (with_reducible exact LeO.refl _)
      | (with_reducible exact LeO.none _)
      | (with_reducible refine LeO.ite ?_ ?_)
      | (with_reducible refine LeO.bind ?_ (fun _ => ?_))
      | exact ih0 _ _ _ _ _ _
      | exact ih1 _ _ _ _ _ _ _ _
      | exact ih2 _ _ _ _ _ _
      | exact gatelinelaw07_lined.mono _
      | exact LeO.none _
      | refine LeO.ite ?_ ?_
      | refine LeO.bind ?_ (fun _ => ?_)
theorem gatelinelaw07_LineWays.mono : ∀ a0 a1 a2 k, LeO (gatelinelaw07_LineWays.f k a0 a1 a2) (gatelinelaw07_LineWays.f (k + 1) a0 a1 a2) := by
  intro a0 a1 a2 k
  obtain ⟨ih0, ih1, ih2⟩ := gatelinelaw07_LineWays.mono_l k
  unfold gatelinelaw07_LineWays.f
  repeat' first
      | (with_reducible exact ih0 _ _ _ _ _ _)
      | (with_reducible exact ih1 _ _ _ _ _ _ _ _)
      | (with_reducible exact ih2 _ _ _ _ _ _)
      | (with_reducible exact gatelinelaw07_lined.mono _)
      | (with_reducible exact LeO.refl _)
      | (with_reducible exact LeO.none _)
      | (with_reducible refine LeO.ite ?_ ?_)
      | (with_reducible refine LeO.bind ?_ (fun _ => ?_))
      | exact ih0 _ _ _ _ _ _
      | exact ih1 _ _ _ _ _ _ _ _
      | exact ih2 _ _ _ _ _ _
      | exact gatelinelaw07_lined.mono _
      | exact LeO.none _
      | refine LeO.ite ?_ ?_
      | refine LeO.bind ?_ (fun _ => ?_)
set_option maxHeartbeats 8000000 in
set_option maxRecDepth 100000 in
theorem gatelinelaw07_LineWays.calls (k : Nat) (a0 : Int) (a1 : Int) (a2 : Int) (r : Bool) (w : World) (h : gatelinelaw07_LineWays.f k a0 a1 a2 = some r) :
    Calls Try.prog 5 #[.int .i64 a0, .int .i64 a1, .int .i64 a2] w fun e w' => e = .returned (.bool r) ∧ Below w.heap.size w w' := by
  have HB := Aside0.mk (Below.refl w.heap.size w)
  have H : ((line_Between.f a0 a1 a2).bind fun bt180 => ((line_Between.f a1 a0 a2).bind fun bt182 => (if bt180.2 = bt182.2 then (gatelinelaw07_LineWays.j0 k a0 a1 a2 bt180.1 bt180.2 (bt180.1 != bt182.1)) else (gatelinelaw07_LineWays.j0 k a0 a1 a2 bt180.1 bt180.2 true)))) = some r := h
  clear h
  replace H := Option.bind_eq_some_iff.mp H
  obtain ⟨⟨t180, t181⟩, A40, H⟩ := H
  replace H : ((line_Between.f a1 a0 a2).bind fun bt182 => (if t181 = bt182.2 then (gatelinelaw07_LineWays.j0 k a0 a1 a2 t180 t181 (t180 != bt182.1)) else (gatelinelaw07_LineWays.j0 k a0 a1 a2 t180 t181 true))) = some r := H
  have A4 := Aside0.mk A40
  clear A40
  replace H := Option.bind_eq_some_iff.mp H
  obtain ⟨⟨t182, t183⟩, A50, H⟩ := H
  replace H : (if t181 = t183 then (gatelinelaw07_LineWays.j0 k a0 a1 a2 t180 t181 (t180 != t182)) else (gatelinelaw07_LineWays.j0 k a0 a1 a2 t180 t181 true)) = some r := H
  have A5 := Aside0.mk A50
  clear A50
  have HC6 := Aside0.mk H
  clear H
  go_enter Try.func5, Try.ntmps5
  go_upto_region 3 with (first | ((with_reducible refine gate_callee (f := 16) rfl ?_); refine goesL_ (some 23) rfl rfl Try.func16 (by kernel_rfl) rfl #[.int .i64 a0, .int .i64 a1, .int .i64 a2] rfl (by (try simp only [List.map_toArray, List.map_cons, List.map_nil]); first | done | rfl | (simp only [List.length_drop, List.length_take]; rfl)) ?_; (with_reducible refine (line_Between.calls a0 a1 a2 t180 t181 _ A4.out).mono ?_); rintro e w7 ⟨rfl, hb⟩; refine ⟨_, rfl, ?_⟩; have n0_ := Aside0.mk (below_step (by repeat (first | (with_reducible first | exact HB.out | apply below_alloc | apply pw_below_drewN | apply below_drew1) | exact HB.out)) hb); clear HB; have HB := n0_; clear n0_; (try clear hb); (try clear hb2); (try clear hk); (try clear hi); (try clear A4)) | ((with_reducible refine gate_callee (f := 16) rfl ?_); refine goesL_ (some 30) rfl rfl Try.func16 (by kernel_rfl) rfl #[.int .i64 a1, .int .i64 a0, .int .i64 a2] rfl (by (try simp only [List.map_toArray, List.map_cons, List.map_nil]); first | done | rfl | (simp only [List.length_drop, List.length_take]; rfl)) ?_; (with_reducible refine (line_Between.calls a1 a0 a2 t182 t183 _ A5.out).mono ?_); rintro e w8 ⟨rfl, hb⟩; refine ⟨_, rfl, ?_⟩; have n0_ := Aside0.mk (below_step (by repeat (first | (with_reducible first | exact HB.out | apply below_alloc | apply pw_below_drewN | apply below_drew1) | exact HB.out)) hb); clear HB; have HB := n0_; clear n0_; (try clear hb); (try clear hb2); (try clear hk); (try clear hi); (try clear A5)))
  (try simp only [Act.put, List.setIfInBounds_toArray, List.set_cons_zero, List.set_cons_succ])
  go_cut [40] (fun v40 wc => ∃ (kq : Nat) (x40_5 : Bool), v40 = .bool x40_5 ∧ Aside0 (gatelinelaw07_LineWays.j0 kq a0 a1 a2 t180 t181 x40_5 = some r) ∧ Aside0 (kq ≤ k) ∧ Aside0 (Below w.heap.size w wc))
  case first =>
    have H := HC6.out
    clear HC6
    by_cases c9 : t181 = t183
    · rw [if_pos c9] at H
      have c9b0 : (t181 == t183) = true := beq_iff_eq.mpr c9
      have c9b1 : (t181 != t183) = false := bne_eq_false_iff_eq.mpr c9
      clear c9
      (first | rw [c9b0] | (simp only [i64_w, i32_w]; rw [c9b0]) | skip)
      have H' := Aside0.mk H
      clear H
      go_wp2
      go_meet
      case rel => exact ⟨_, ((t180 != t182)), (by first | rfl | (simp; done) | (simp [*]; done)), H', ⟨by first | omega | exact Nat.le_refl _⟩, ⟨by repeat (first | (with_reducible first | exact HB.out | apply below_alloc | apply pw_below_drewN | apply below_drew1) | exact HB.out)⟩⟩
    · rw [if_neg c9] at H
      have c9b0 : (t181 == t183) = false := beq_eq_false_iff_ne.mpr c9
      have c9b1 : (t181 != t183) = true := bne_iff_ne.mpr c9
      (first | rw [c9b0] | (simp only [i64_w, i32_w]; rw [c9b0]) | skip)
      have H' := Aside0.mk H
      clear H
      go_wp2
      go_meet
      case rel => exact ⟨_, (true), (by first | rfl | (simp; done) | (simp [*]; done)), H', ⟨by first | omega | exact Nat.le_refl _⟩, ⟨by repeat (first | (with_reducible first | exact HB.out | apply below_alloc | apply pw_below_drewN | apply below_drew1) | exact HB.out)⟩⟩
  case rest =>
    clear HC6
    try clear c1
    try clear p2
    try clear c5
    try clear c9
    try clear c9b0
    try clear c9b1
    obtain ⟨kq, x40_5, rfl, HA, HJ5, HB⟩ := hcut
    cases kq with
    | zero => exact absurd HA.out (by simp [gatelinelaw07_LineWays.j0])
    | succ kj5 =>
      have H := HA.out
      clear HA
      simp only [gatelinelaw07_LineWays.j0] at H
      by_cases c10 : x40_5 = true
      · subst c10
        have H1 : (some false) = some r := by rw [if_pos rfl] at H; exact H
        clear H
        have H := H1
        clear H1
        obtain rfl := Option.some.inj H
        go_wp2
        go_ret
        exact ⟨by first | rfl | (simp [errW_none, errW_some] <;> rfl) | (simp [*, errW_none, errW_some] <;> rfl), by repeat (first | (with_reducible first | exact HB.out | apply below_alloc | apply pw_below_drewN | apply below_drew1) | exact HB.out)⟩
      · replace c10 := Bool.eq_false_iff.mpr c10
        subst c10
        have H1 : ((line_Zones.f a0 a1).bind fun bt184 => ((line_Zones.f a1 a0).bind fun bt187 => ((line_Zone.f a2).bind fun bt190 => (if bt184.2.2 = bt187.2.2 then (if bt184.1 = bt187.1 then (gatelinelaw07_LineWays.j1 kj5 t180 t181 bt184.1 bt184.2.1 bt184.2.2 bt190.1 bt190.2 (bt184.2.1 != bt187.2.1)) else (gatelinelaw07_LineWays.j1 kj5 t180 t181 bt184.1 bt184.2.1 bt184.2.2 bt190.1 bt190.2 true)) else (gatelinelaw07_LineWays.j1 kj5 t180 t181 bt184.1 bt184.2.1 bt184.2.2 bt190.1 bt190.2 true))))) = some r := by rw [if_neg (show ¬ (false = true) by decide)] at H; exact H
        clear H
        have H := H1
        clear H1
        replace H := Option.bind_eq_some_iff.mp H
        obtain ⟨⟨t184, t185, t186⟩, A110, H⟩ := H
        replace H : ((line_Zones.f a1 a0).bind fun bt187 => ((line_Zone.f a2).bind fun bt190 => (if t186 = bt187.2.2 then (if t184 = bt187.1 then (gatelinelaw07_LineWays.j1 kj5 t180 t181 t184 t185 t186 bt190.1 bt190.2 (t185 != bt187.2.1)) else (gatelinelaw07_LineWays.j1 kj5 t180 t181 t184 t185 t186 bt190.1 bt190.2 true)) else (gatelinelaw07_LineWays.j1 kj5 t180 t181 t184 t185 t186 bt190.1 bt190.2 true)))) = some r := H
        have A11 := Aside0.mk A110
        clear A110
        replace H := Option.bind_eq_some_iff.mp H
        obtain ⟨⟨t187, t188, t189⟩, A120, H⟩ := H
        replace H : ((line_Zone.f a2).bind fun bt190 => (if t186 = t189 then (if t184 = t187 then (gatelinelaw07_LineWays.j1 kj5 t180 t181 t184 t185 t186 bt190.1 bt190.2 (t185 != t188)) else (gatelinelaw07_LineWays.j1 kj5 t180 t181 t184 t185 t186 bt190.1 bt190.2 true)) else (gatelinelaw07_LineWays.j1 kj5 t180 t181 t184 t185 t186 bt190.1 bt190.2 true))) = some r := H
        have A12 := Aside0.mk A120
        clear A120
        replace H := Option.bind_eq_some_iff.mp H
        obtain ⟨⟨t190, t191⟩, A130, H⟩ := H
        replace H : (if t186 = t189 then (if t184 = t187 then (gatelinelaw07_LineWays.j1 kj5 t180 t181 t184 t185 t186 t190 t191 (t185 != t188)) else (gatelinelaw07_LineWays.j1 kj5 t180 t181 t184 t185 t186 t190 t191 true)) else (gatelinelaw07_LineWays.j1 kj5 t180 t181 t184 t185 t186 t190 t191 true)) = some r := H
        have A13 := Aside0.mk A130
        clear A130
        have HC14 := Aside0.mk H
        clear H
        go_upto_region 8 with (first | ((with_reducible refine gate_callee (f := 21) rfl ?_); refine goesL_ (some 44) rfl rfl Try.func21 (by kernel_rfl) rfl #[.int .i64 a0, .int .i64 a1] rfl (by (try simp only [List.map_toArray, List.map_cons, List.map_nil]); first | done | rfl | (simp only [List.length_drop, List.length_take]; rfl)) ?_; (with_reducible refine (line_Zones.calls a0 a1 t184 t185 t186 _ A11.out).mono ?_); rintro e w15 ⟨rfl, hb⟩; refine ⟨_, rfl, ?_⟩; have n0_ := Aside0.mk (below_step (by repeat (first | (with_reducible first | exact HB.out | apply below_alloc | apply pw_below_drewN | apply below_drew1) | exact HB.out)) hb); clear HB; have HB := n0_; clear n0_; (try clear hb); (try clear hb2); (try clear hk); (try clear hi); (try clear A11)) | ((with_reducible refine gate_callee (f := 21) rfl ?_); refine goesL_ (some 51) rfl rfl Try.func21 (by kernel_rfl) rfl #[.int .i64 a1, .int .i64 a0] rfl (by (try simp only [List.map_toArray, List.map_cons, List.map_nil]); first | done | rfl | (simp only [List.length_drop, List.length_take]; rfl)) ?_; (with_reducible refine (line_Zones.calls a1 a0 t187 t188 t189 _ A12.out).mono ?_); rintro e w16 ⟨rfl, hb⟩; refine ⟨_, rfl, ?_⟩; have n0_ := Aside0.mk (below_step (by repeat (first | (with_reducible first | exact HB.out | apply below_alloc | apply pw_below_drewN | apply below_drew1) | exact HB.out)) hb); clear HB; have HB := n0_; clear n0_; (try clear hb); (try clear hb2); (try clear hk); (try clear hi); (try clear A12)) | ((with_reducible refine gate_callee (f := 14) rfl ?_); refine goesL_ (some 57) rfl rfl Try.func14 (by kernel_rfl) rfl #[.int .i64 a2] rfl (by (try simp only [List.map_toArray, List.map_cons, List.map_nil]); first | done | rfl | (simp only [List.length_drop, List.length_take]; rfl)) ?_; (with_reducible refine (line_Zone.calls a2 t190 t191 _ A13.out).mono ?_); rintro e w17 ⟨rfl, hb⟩; refine ⟨_, rfl, ?_⟩; have n0_ := Aside0.mk (below_step (by repeat (first | (with_reducible first | exact HB.out | apply below_alloc | apply pw_below_drewN | apply below_drew1) | exact HB.out)) hb); clear HB; have HB := n0_; clear n0_; (try clear hb); (try clear hb2); (try clear hk); (try clear hi); (try clear A13)))
        (try simp only [Act.put, List.setIfInBounds_toArray, List.set_cons_zero, List.set_cons_succ])
        go_cut [72] (fun v72 wc => ∃ (kq : Nat) (x72_13 : Bool), v72 = .bool x72_13 ∧ Aside0 (gatelinelaw07_LineWays.j1 kq t180 t181 t184 t185 t186 t190 t191 x72_13 = some r) ∧ Aside0 (kq ≤ kj5) ∧ Aside0 (Below w.heap.size w wc))
        case first =>
          have H := HC14.out
          clear HC14
          by_cases c18 : t186 = t189
          · rw [if_pos c18] at H
            have c18b0 : (t186 == t189) = true := beq_iff_eq.mpr c18
            have c18b1 : (t186 != t189) = false := bne_eq_false_iff_eq.mpr c18
            clear c18
            (first | rw [c18b0] | (simp only [i64_w, i32_w]; rw [c18b0]) | skip)
            by_cases c19 : t184 = t187
            · rw [if_pos c19] at H
              have c19b0 : (t184 == t187) = true := beq_iff_eq.mpr c19
              have c19b1 : (t184 != t187) = false := bne_eq_false_iff_eq.mpr c19
              clear c19
              have H' := Aside0.mk H
              clear H
              go_wp2
              go_meet
              case rel => exact ⟨_, ((t185 != t188)), (by first | rfl | (simp; done) | (simp [*]; done)), H', ⟨by have := HJ5.out; first | omega | exact Nat.le_refl _⟩, ⟨by repeat (first | (with_reducible first | exact HB.out | apply below_alloc | apply pw_below_drewN | apply below_drew1) | exact HB.out)⟩⟩
            · rw [if_neg c19] at H
              have c19b0 : (t184 == t187) = false := beq_eq_false_iff_ne.mpr c19
              have c19b1 : (t184 != t187) = true := bne_iff_ne.mpr c19
              have H' := Aside0.mk H
              clear H
              go_wp2
              go_meet
              case rel => exact ⟨_, (true), (by first | rfl | (simp; done) | (simp [*]; done)), H', ⟨by have := HJ5.out; first | omega | exact Nat.le_refl _⟩, ⟨by repeat (first | (with_reducible first | exact HB.out | apply below_alloc | apply pw_below_drewN | apply below_drew1) | exact HB.out)⟩⟩
          · rw [if_neg c18] at H
            have c18b0 : (t186 == t189) = false := beq_eq_false_iff_ne.mpr c18
            have c18b1 : (t186 != t189) = true := bne_iff_ne.mpr c18
            (first | rw [c18b0] | (simp only [i64_w, i32_w]; rw [c18b0]) | skip)
            have H' := Aside0.mk H
            clear H
            go_wp2
            go_meet
            case rel => exact ⟨_, (true), (by first | rfl | (simp; done) | (simp [*]; done)), H', ⟨by have := HJ5.out; first | omega | exact Nat.le_refl _⟩, ⟨by repeat (first | (with_reducible first | exact HB.out | apply below_alloc | apply pw_below_drewN | apply below_drew1) | exact HB.out)⟩⟩
        case rest =>
          clear HC14
          try clear c1
          try clear c2
          try clear p2
          try clear c5
          try clear c9
          try clear c9b0
          try clear c9b1
          try clear c10
          try clear c14
          try clear c16
          try clear c18
          try clear c18b0
          try clear c18b1
          try clear c19
          try clear c19b0
          try clear c19b1
          try clear p2
          obtain ⟨kq, x72_13, rfl, HA, HJ13, HB⟩ := hcut
          cases kq with
          | zero => exact absurd HA.out (by simp [gatelinelaw07_LineWays.j1])
          | succ kj13 =>
            have H := HA.out
            clear HA
            simp only [gatelinelaw07_LineWays.j1] at H
            by_cases c20 : x72_13 = true
            · subst c20
              have H1 : (some false) = some r := by rw [if_pos rfl] at H; exact H
              clear H
              have H := H1
              clear H1
              obtain rfl := Option.some.inj H
              go_wp2
              go_ret
              exact ⟨by first | rfl | (simp [errW_none, errW_some] <;> rfl) | (simp [*, errW_none, errW_some] <;> rfl), by repeat (first | (with_reducible first | exact HB.out | apply below_alloc | apply pw_below_drewN | apply below_drew1) | exact HB.out)⟩
            · replace c20 := Bool.eq_false_iff.mpr c20
              subst c20
              have H1 : (if t181 = 0 then (gatelinelaw07_LineWays.j2 kj13 t184 t185 t186 t190 t191 (!t180)) else (gatelinelaw07_LineWays.j2 kj13 t184 t185 t186 t190 t191 true)) = some r := by rw [if_neg (show ¬ (false = true) by decide)] at H; exact H
              clear H
              have H := H1
              clear H1
              have HC21 := Aside0.mk H
              clear H
              go_upto_region 10 with (fail)
              go_cut [78] (fun v78 wc => ∃ (kq : Nat) (x78_20 : Bool), v78 = .bool x78_20 ∧ Aside0 (gatelinelaw07_LineWays.j2 kq t184 t185 t186 t190 t191 x78_20 = some r) ∧ Aside0 (kq ≤ kj13) ∧ Aside0 (Below w.heap.size w wc))
              case first =>
                have H := HC21.out
                clear HC21
                by_cases c22 : t181 = 0
                · rw [if_pos c22] at H
                  have c22b0 : (t181 == 0) = true := beq_iff_eq.mpr c22
                  have c22b1 : (t181 != 0) = false := bne_eq_false_iff_eq.mpr c22
                  clear c22
                  (first | rw [c22b0] | (simp only [i64_w, i32_w]; rw [c22b0]) | skip)
                  have H' := Aside0.mk H
                  clear H
                  go_wp2
                  go_meet
                  case rel => exact ⟨_, (!t180), (by first | rfl | (simp; done) | (simp [*]; done)), H', ⟨by have := HJ5.out; have := HJ13.out; first | omega | exact Nat.le_refl _⟩, ⟨by repeat (first | (with_reducible first | exact HB.out | apply below_alloc | apply pw_below_drewN | apply below_drew1) | exact HB.out)⟩⟩
                · rw [if_neg c22] at H
                  have c22b0 : (t181 == 0) = false := beq_eq_false_iff_ne.mpr c22
                  have c22b1 : (t181 != 0) = true := bne_iff_ne.mpr c22
                  (first | rw [c22b0] | (simp only [i64_w, i32_w]; rw [c22b0]) | skip)
                  have H' := Aside0.mk H
                  clear H
                  go_wp2
                  go_meet
                  case rel => exact ⟨_, (true), (by first | rfl | (simp; done) | (simp [*]; done)), H', ⟨by have := HJ5.out; have := HJ13.out; first | omega | exact Nat.le_refl _⟩, ⟨by repeat (first | (with_reducible first | exact HB.out | apply below_alloc | apply pw_below_drewN | apply below_drew1) | exact HB.out)⟩⟩
              case rest =>
                clear HC21
                try clear c1
                try clear c2
                try clear p2
                try clear c5
                try clear c9
                try clear c9b0
                try clear c9b1
                try clear c10
                try clear c14
                try clear c16
                try clear c18
                try clear c18b0
                try clear c18b1
                try clear c19
                try clear c19b0
                try clear c19b1
                try clear c20
                try clear c21
                try clear c22
                try clear c22b0
                try clear c22b1
                try clear p2
                obtain ⟨kq, x78_20, rfl, HA, HJ20, HB⟩ := hcut
                cases kq with
                | zero => exact absurd HA.out (by simp [gatelinelaw07_LineWays.j2])
                | succ kj20 =>
                  have H := HA.out
                  clear HA
                  simp only [gatelinelaw07_LineWays.j2] at H
                  by_cases c23 : x78_20 = true
                  · subst c23
                    have H1 : ((gatelinelaw07_lined.f kj20).bind fun t192 => (some t192)) = some r := by rw [if_pos rfl] at H; exact H
                    clear H
                    have H := H1
                    clear H1
                    replace H := Option.bind_eq_some_iff.mp H
                    obtain ⟨t192, A240, H⟩ := H
                    replace H : (some t192) = some r := H
                    have A24 := Aside0.mk A240
                    clear A240
                    obtain rfl := Option.some.inj H
                    go_wp2_with (first | ((with_reducible refine gate_callee (f := 18) rfl ?_); refine goesL_ (some 79) rfl rfl Try.func18 (by kernel_rfl) rfl #[] rfl (by (try simp only [List.map_toArray, List.map_cons, List.map_nil]); first | done | rfl | (simp only [List.length_drop, List.length_take]; rfl)) ?_; (with_reducible refine (gatelinelaw07_lined.calls kj20  t192 _ A24.out).mono ?_); rintro e w25 ⟨rfl, hb⟩; refine ⟨_, rfl, ?_⟩; have n0_ := Aside0.mk (below_step (by repeat (first | (with_reducible first | exact HB.out | apply below_alloc | apply pw_below_drewN | apply below_drew1) | exact HB.out)) hb); clear HB; have HB := n0_; clear n0_; (try clear hb); (try clear hb2); (try clear hk); (try clear hi); (try clear A24)))
                    go_ret
                    exact ⟨by first | rfl | (simp [errW_none, errW_some] <;> rfl) | (simp [*, errW_none, errW_some] <;> rfl), by repeat (first | (with_reducible first | exact HB.out | apply below_alloc | apply pw_below_drewN | apply below_drew1) | exact HB.out)⟩
                  · replace c23 := Bool.eq_false_iff.mpr c23
                    subst c23
                    have H1 : ((gatelinelaw07_lined.f kj20).bind fun t193 => (if t193 = true then (if t186 = 0 then (if t191 = 0 then (if t190 ≥ t184 then (some (decide (t190 ≤ t185))) else (some false)) else (some false)) else (some false)) else (some false))) = some r := by rw [if_neg (show ¬ (false = true) by decide)] at H; exact H
                    clear H
                    have H := H1
                    clear H1
                    replace H := Option.bind_eq_some_iff.mp H
                    obtain ⟨t193, A260, H⟩ := H
                    replace H : (if t193 = true then (if t186 = 0 then (if t191 = 0 then (if t190 ≥ t184 then (some (decide (t190 ≤ t185))) else (some false)) else (some false)) else (some false)) else (some false)) = some r := H
                    have A26 := Aside0.mk A260
                    clear A260
                    by_cases c27 : t193 = true
                    · subst c27
                      have H1 : (if t186 = 0 then (if t191 = 0 then (if t190 ≥ t184 then (some (decide (t190 ≤ t185))) else (some false)) else (some false)) else (some false)) = some r := by rw [if_pos rfl] at H; exact H
                      clear H
                      have H := H1
                      clear H1
                      by_cases c28 : t186 = 0
                      · rw [if_pos c28] at H
                        have c28b0 : (t186 == 0) = true := beq_iff_eq.mpr c28
                        have c28b1 : (t186 != 0) = false := bne_eq_false_iff_eq.mpr c28
                        clear c28
                        by_cases c29 : t191 = 0
                        · rw [if_pos c29] at H
                          have c29b0 : (t191 == 0) = true := beq_iff_eq.mpr c29
                          have c29b1 : (t191 != 0) = false := bne_eq_false_iff_eq.mpr c29
                          clear c29
                          by_cases c30 : t190 ≥ t184
                          · rw [if_pos c30] at H
                            have c30b0 : decide (t184 ≤ t190) = true := decide_eq_true c30
                            clear c30
                            obtain rfl := Option.some.inj H
                            go_wp2_with (first | ((with_reducible refine gate_callee (f := 18) rfl ?_); refine goesL_ (some 80) rfl rfl Try.func18 (by kernel_rfl) rfl #[] rfl (by (try simp only [List.map_toArray, List.map_cons, List.map_nil]); first | done | rfl | (simp only [List.length_drop, List.length_take]; rfl)) ?_; (with_reducible refine (gatelinelaw07_lined.calls kj20  true _ A26.out).mono ?_); rintro e w31 ⟨rfl, hb⟩; refine ⟨_, rfl, ?_⟩; have n0_ := Aside0.mk (below_step (by repeat (first | (with_reducible first | exact HB.out | apply below_alloc | apply pw_below_drewN | apply below_drew1) | exact HB.out)) hb); clear HB; have HB := n0_; clear n0_; (try clear hb); (try clear hb2); (try clear hk); (try clear hi); (try clear A26)))
                            go_ret
                            exact ⟨by first | rfl | (simp [errW_none, errW_some] <;> rfl) | (simp [*, errW_none, errW_some] <;> rfl), by repeat (first | (with_reducible first | exact HB.out | apply below_alloc | apply pw_below_drewN | apply below_drew1) | exact HB.out)⟩
                          · rw [if_neg c30] at H
                            have c30b0 : decide (t184 ≤ t190) = false := decide_eq_false c30
                            clear c30
                            obtain rfl := Option.some.inj H
                            go_wp2_with (first | ((with_reducible refine gate_callee (f := 18) rfl ?_); refine goesL_ (some 80) rfl rfl Try.func18 (by kernel_rfl) rfl #[] rfl (by (try simp only [List.map_toArray, List.map_cons, List.map_nil]); first | done | rfl | (simp only [List.length_drop, List.length_take]; rfl)) ?_; (with_reducible refine (gatelinelaw07_lined.calls kj20  true _ A26.out).mono ?_); rintro e w32 ⟨rfl, hb⟩; refine ⟨_, rfl, ?_⟩; have n0_ := Aside0.mk (below_step (by repeat (first | (with_reducible first | exact HB.out | apply below_alloc | apply pw_below_drewN | apply below_drew1) | exact HB.out)) hb); clear HB; have HB := n0_; clear n0_; (try clear hb); (try clear hb2); (try clear hk); (try clear hi); (try clear A26)))
                            go_ret
                            exact ⟨by first | rfl | (simp [errW_none, errW_some] <;> rfl) | (simp [*, errW_none, errW_some] <;> rfl), by repeat (first | (with_reducible first | exact HB.out | apply below_alloc | apply pw_below_drewN | apply below_drew1) | exact HB.out)⟩
                        · rw [if_neg c29] at H
                          have c29b0 : (t191 == 0) = false := beq_eq_false_iff_ne.mpr c29
                          have c29b1 : (t191 != 0) = true := bne_iff_ne.mpr c29
                          obtain rfl := Option.some.inj H
                          go_wp2_with (first | ((with_reducible refine gate_callee (f := 18) rfl ?_); refine goesL_ (some 80) rfl rfl Try.func18 (by kernel_rfl) rfl #[] rfl (by (try simp only [List.map_toArray, List.map_cons, List.map_nil]); first | done | rfl | (simp only [List.length_drop, List.length_take]; rfl)) ?_; (with_reducible refine (gatelinelaw07_lined.calls kj20  true _ A26.out).mono ?_); rintro e w33 ⟨rfl, hb⟩; refine ⟨_, rfl, ?_⟩; have n0_ := Aside0.mk (below_step (by repeat (first | (with_reducible first | exact HB.out | apply below_alloc | apply pw_below_drewN | apply below_drew1) | exact HB.out)) hb); clear HB; have HB := n0_; clear n0_; (try clear hb); (try clear hb2); (try clear hk); (try clear hi); (try clear A26)))
                          go_ret
                          exact ⟨by first | rfl | (simp [errW_none, errW_some] <;> rfl) | (simp [*, errW_none, errW_some] <;> rfl), by repeat (first | (with_reducible first | exact HB.out | apply below_alloc | apply pw_below_drewN | apply below_drew1) | exact HB.out)⟩
                      · rw [if_neg c28] at H
                        have c28b0 : (t186 == 0) = false := beq_eq_false_iff_ne.mpr c28
                        have c28b1 : (t186 != 0) = true := bne_iff_ne.mpr c28
                        obtain rfl := Option.some.inj H
                        go_wp2_with (first | ((with_reducible refine gate_callee (f := 18) rfl ?_); refine goesL_ (some 80) rfl rfl Try.func18 (by kernel_rfl) rfl #[] rfl (by (try simp only [List.map_toArray, List.map_cons, List.map_nil]); first | done | rfl | (simp only [List.length_drop, List.length_take]; rfl)) ?_; (with_reducible refine (gatelinelaw07_lined.calls kj20  true _ A26.out).mono ?_); rintro e w34 ⟨rfl, hb⟩; refine ⟨_, rfl, ?_⟩; have n0_ := Aside0.mk (below_step (by repeat (first | (with_reducible first | exact HB.out | apply below_alloc | apply pw_below_drewN | apply below_drew1) | exact HB.out)) hb); clear HB; have HB := n0_; clear n0_; (try clear hb); (try clear hb2); (try clear hk); (try clear hi); (try clear A26)))
                        go_ret
                        exact ⟨by first | rfl | (simp [errW_none, errW_some] <;> rfl) | (simp [*, errW_none, errW_some] <;> rfl), by repeat (first | (with_reducible first | exact HB.out | apply below_alloc | apply pw_below_drewN | apply below_drew1) | exact HB.out)⟩
                    · replace c27 := Bool.eq_false_iff.mpr c27
                      subst c27
                      have H1 : (some false) = some r := by rw [if_neg (show ¬ (false = true) by decide)] at H; exact H
                      clear H
                      have H := H1
                      clear H1
                      obtain rfl := Option.some.inj H
                      go_wp2_with (first | ((with_reducible refine gate_callee (f := 18) rfl ?_); refine goesL_ (some 80) rfl rfl Try.func18 (by kernel_rfl) rfl #[] rfl (by (try simp only [List.map_toArray, List.map_cons, List.map_nil]); first | done | rfl | (simp only [List.length_drop, List.length_take]; rfl)) ?_; (with_reducible refine (gatelinelaw07_lined.calls kj20  false _ A26.out).mono ?_); rintro e w35 ⟨rfl, hb⟩; refine ⟨_, rfl, ?_⟩; have n0_ := Aside0.mk (below_step (by repeat (first | (with_reducible first | exact HB.out | apply below_alloc | apply pw_below_drewN | apply below_drew1) | exact HB.out)) hb); clear HB; have HB := n0_; clear n0_; (try clear hb); (try clear hb2); (try clear hk); (try clear hi); (try clear A26)))
                      go_ret
                      exact ⟨by first | rfl | (simp [errW_none, errW_some] <;> rfl) | (simp [*, errW_none, errW_some] <;> rfl), by repeat (first | (with_reducible first | exact HB.out | apply below_alloc | apply pw_below_drewN | apply below_drew1) | exact HB.out)⟩

/-- THE ONE PURE STATEMENT of gatelinelaw07_LineWays: yours. -/
def gatelinelaw07_LineWays.Pure : Prop := ∀ (a0 : Int) (a1 : Int) (a2 : Int), (Lit.int .i64 a0).wf = true → (Lit.int .i64 a1).wf = true → (Lit.int .i64 a2).wf = true → ∃ k, gatelinelaw07_LineWays.f k a0 a1 a2 = some true
theorem gatelinelaw07_LineWays.walk (P : gatelinelaw07_LineWays.Pure) (a0 : Int) (a1 : Int) (a2 : Int) (w : World) (w0 : (Lit.int .i64 a0).wf = true) (w1 : (Lit.int .i64 a1).wf = true) (w2 : (Lit.int .i64 a2).wf = true) :
    Calls Try.prog 5 #[.int .i64 a0, .int .i64 a1, .int .i64 a2] w fun e w' => e = .returned (.bool true) ∧ Below w.heap.size w w' := by
  obtain ⟨k, h⟩ := P a0 a1 a2 w0 w1 w2
  refine (gatelinelaw07_LineWays.calls k a0 a1 a2 true w h).mono ?_
  rintro e w' ⟨rfl, hd⟩
  exact ⟨rfl, hd⟩

end Go.Proofs.Ytikaonejpbaikaa.PL
