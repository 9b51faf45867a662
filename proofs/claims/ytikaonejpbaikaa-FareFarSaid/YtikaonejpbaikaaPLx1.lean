-- Written by the kit's print program with contracts that this session proved by hand given to it. Not trusted: Lean checks it.
import Derived.Test.YtikaonejpbaikaaPLx0
namespace Go.Proofs.Ytikaonejpbaikaa.PL
open Go.RowKit Go.Proofs.YtikaonejpbaikaaW.PrintWords Go.Proofs.YtikaonejpbaikaaW.PrintLast Go.Proofs.YtikaonejpbaikaaW.PrintMore
attribute [local go_sem] max2_int min2_int max_two min_two max_three min_three max_four min_four   -- for this text's walks alone
set_option linter.unusedVariables false
set_option linter.unusedSimpArgs false

/-! ### line_Zone: function 14 (a contract proved by hand) -/
def line_Zone.f (a0 : Int) : Option (Int × Int) := if -9223372036854775808 ≤ a0 ∧ a0 ≤ 9223372036854775807 then some (G.zoneR a0) else none
theorem line_Zone.calls (a0 : Int) (r1 r2 : Int) (w : World) (h : line_Zone.f a0 = some (r1, r2)) : Calls Try.prog 14 #[.int .i64 a0] w fun e w' => e = .returned (.tuple #[.int .i64 r1, .int .i64 r2]) ∧ Below w.heap.size w w' := by
  unfold line_Zone.f at h
  by_cases hw : -9223372036854775808 ≤ a0 ∧ a0 ≤ 9223372036854775807
  · rw [if_pos hw, Option.some.injEq] at h
    have hc := G.zone_any a0 w hw
    rw [h] at hc
    exact hc
  · rw [if_neg hw] at h
    exact absurd h (by simp)

/-! ### gatelineref07_Is: function 20 -/
def gatelineref07_Is.f (a0 : Int) : Option (Bool) := if a0 ≥ 0 then (some (decide (a0 ≤ 39))) else (some false)
set_option maxHeartbeats 8000000 in
set_option maxRecDepth 100000 in
theorem gatelineref07_Is.calls (a0 : Int) (r : Bool) (w : World) (h : gatelineref07_Is.f a0 = some r) :
    Calls Try.prog 20 #[.int .i64 a0] w fun e w' => e = .returned (.bool r) ∧ Drawn0 w w' := by
  have H : (if a0 ≥ 0 then (some (decide (a0 ≤ 39))) else (some false)) = some r := h
  clear h
  by_cases c2 : a0 ≥ 0
  · rw [if_pos c2] at H
    have c2b0 : decide (0 ≤ a0) = true := decide_eq_true c2
    clear c2
    obtain rfl := Option.some.inj H
    go_enter Try.func20, Try.ntmps20
    go_wp2
    go_ret
    exact ⟨by first | rfl | (simp; done) | (simp [*]; done), by repeat (first | exact Drawn0.refl _ | apply Drawn0.step)⟩
  · rw [if_neg c2] at H
    have c2b0 : decide (0 ≤ a0) = false := decide_eq_false c2
    clear c2
    obtain rfl := Option.some.inj H
    go_enter Try.func20, Try.ntmps20
    go_wp2
    go_ret
    exact ⟨by first | rfl | (simp; done) | (simp [*]; done), by repeat (first | exact Drawn0.refl _ | apply Drawn0.step)⟩

/-! ### gatelineref07_Zone: function 15 -/
def gatelineref07_Zone.f (a0 : Int) : Option (Int × Int) := (gatelineref07_Is.f a0).bind fun t101 => (if t101 = true then (if a0 < 20 then (some (wrap64 (1 + (wrap64 (Int.tdiv (wrap64 (20 - a0)) 4))), 0)) else (some (wrap64 (1 + (wrap64 (Int.tdiv (wrap64 (a0 - 20)) 4))), 0))) else (some (0, 1)))
set_option maxHeartbeats 8000000 in
set_option maxRecDepth 100000 in
theorem gatelineref07_Zone.calls (a0 : Int) (r1 : Int) (r2 : Int) (w : World) (h : gatelineref07_Zone.f a0 = some (r1, r2)) :
    Calls Try.prog 15 #[.int .i64 a0] w fun e w' => e = .returned (.tuple #[.int .i64 r1, .int .i64 r2]) ∧ Drawn0 w w' := by
  have H : ((gatelineref07_Is.f a0).bind fun t101 => (if t101 = true then (if a0 < 20 then (some (wrap64 (1 + (wrap64 (Int.tdiv (wrap64 (20 - a0)) 4))), 0)) else (some (wrap64 (1 + (wrap64 (Int.tdiv (wrap64 (a0 - 20)) 4))), 0))) else (some (0, 1)))) = some (r1, r2) := h
  clear h
  replace H := Option.bind_eq_some_iff.mp H
  obtain ⟨t101, A20, H⟩ := H
  replace H : (if t101 = true then (if a0 < 20 then (some (wrap64 (1 + (wrap64 (Int.tdiv (wrap64 (20 - a0)) 4))), 0)) else (some (wrap64 (1 + (wrap64 (Int.tdiv (wrap64 (a0 - 20)) 4))), 0))) else (some (0, 1))) = some (r1, r2) := H
  have A2 := Aside0.mk A20
  clear A20
  by_cases c3 : t101 = true
  · subst c3
    have H1 : (if a0 < 20 then (some (wrap64 (1 + (wrap64 (Int.tdiv (wrap64 (20 - a0)) 4))), 0)) else (some (wrap64 (1 + (wrap64 (Int.tdiv (wrap64 (a0 - 20)) 4))), 0))) = some (r1, r2) := by rw [if_pos rfl] at H; exact H
    clear H
    have H := H1
    clear H1
    by_cases c4 : a0 < 20
    · rw [if_pos c4] at H
      have c4b0 : decide (a0 < 20) = true := decide_eq_true c4
      clear c4
      simp only [Option.some.injEq, Prod.mk.injEq] at H
      obtain ⟨rfl, rfl⟩ := H
      go_enter Try.func15, Try.ntmps15
      go_wp2_with (first | ((with_reducible refine gate_callee (f := 20) rfl ?_); refine goesL_ (some 5) rfl rfl Try.func20 (by kernel_rfl) rfl #[.int .i64 a0] rfl (by (try simp only [List.map_toArray, List.map_cons, List.map_nil]); first | done | rfl | (simp only [List.length_drop, List.length_take]; rfl)) ?_; (with_reducible refine (gatelineref07_Is.calls a0 true _ A2.out).mono ?_); rintro e w' ⟨rfl, ⟨nd, rfl⟩⟩; refine ⟨_, rfl, ?_⟩; (try clear A2)))
      go_ret2
      exact ⟨by first | rfl | (simp; done) | (simp [*]; done), by repeat (first | exact Drawn0.refl _ | apply Drawn0.step)⟩
    · rw [if_neg c4] at H
      have c4b0 : decide (a0 < 20) = false := decide_eq_false c4
      clear c4
      simp only [Option.some.injEq, Prod.mk.injEq] at H
      obtain ⟨rfl, rfl⟩ := H
      go_enter Try.func15, Try.ntmps15
      go_wp2_with (first | ((with_reducible refine gate_callee (f := 20) rfl ?_); refine goesL_ (some 5) rfl rfl Try.func20 (by kernel_rfl) rfl #[.int .i64 a0] rfl (by (try simp only [List.map_toArray, List.map_cons, List.map_nil]); first | done | rfl | (simp only [List.length_drop, List.length_take]; rfl)) ?_; (with_reducible refine (gatelineref07_Is.calls a0 true _ A2.out).mono ?_); rintro e w' ⟨rfl, ⟨nd, rfl⟩⟩; refine ⟨_, rfl, ?_⟩; (try clear A2)))
      go_ret2
      exact ⟨by first | rfl | (simp; done) | (simp [*]; done), by repeat (first | exact Drawn0.refl _ | apply Drawn0.step)⟩
  · replace c3 := Bool.eq_false_iff.mpr c3
    subst c3
    have H1 : (some (0, 1)) = some (r1, r2) := by rw [if_neg (show ¬ (false = true) by decide)] at H; exact H
    clear H
    have H := H1
    clear H1
    simp only [Option.some.injEq, Prod.mk.injEq] at H
    obtain ⟨rfl, rfl⟩ := H
    go_enter Try.func15, Try.ntmps15
    go_wp2_with (first | ((with_reducible refine gate_callee (f := 20) rfl ?_); refine goesL_ (some 5) rfl rfl Try.func20 (by kernel_rfl) rfl #[.int .i64 a0] rfl (by (try simp only [List.map_toArray, List.map_cons, List.map_nil]); first | done | rfl | (simp only [List.length_drop, List.length_take]; rfl)) ?_; (with_reducible refine (gatelineref07_Is.calls a0 false _ A2.out).mono ?_); rintro e w' ⟨rfl, ⟨nd, rfl⟩⟩; refine ⟨_, rfl, ?_⟩; (try clear A2)))
    go_ret2
    exact ⟨by first | rfl | (simp; done) | (simp [*]; done), by repeat (first | exact Drawn0.refl _ | apply Drawn0.step)⟩

/-! ### line_Is: function 19 -/
def line_Is.f (a0 : Int) : Option (Bool) := if a0 ≥ 0 then (some (decide (a0 < 40))) else (some false)
set_option maxHeartbeats 8000000 in
set_option maxRecDepth 100000 in
theorem line_Is.calls (a0 : Int) (r : Bool) (w : World) (h : line_Is.f a0 = some r) :
    Calls Try.prog 19 #[.int .i64 a0] w fun e w' => e = .returned (.bool r) ∧ Drawn0 w w' := by
  have H : (if a0 ≥ 0 then (some (decide (a0 < 40))) else (some false)) = some r := h
  clear h
  by_cases c2 : a0 ≥ 0
  · rw [if_pos c2] at H
    have c2b0 : decide (0 ≤ a0) = true := decide_eq_true c2
    clear c2
    obtain rfl := Option.some.inj H
    go_enter Try.func19, Try.ntmps19
    go_wp2
    go_ret
    exact ⟨by first | rfl | (simp; done) | (simp [*]; done), by repeat (first | exact Drawn0.refl _ | apply Drawn0.step)⟩
  · rw [if_neg c2] at H
    have c2b0 : decide (0 ≤ a0) = false := decide_eq_false c2
    clear c2
    obtain rfl := Option.some.inj H
    go_enter Try.func19, Try.ntmps19
    go_wp2
    go_ret
    exact ⟨by first | rfl | (simp; done) | (simp [*]; done), by repeat (first | exact Drawn0.refl _ | apply Drawn0.step)⟩

/-! ### line_Between: function 16 -/
def line_Between.f (a0 : Int) (a1 : Int) (a2 : Int) : Option (Bool × Int) := (line_Is.f a0).bind fun t102 => (if t102 = true then ((line_Is.f a1).bind fun t103 => (if t103 = true then ((line_Is.f a2).bind fun t104 => (if t104 = true then (if (mn a0 a1) ≤ a2 then (some (decide (a2 ≤ (mx a0 a1)), 0)) else (some (false, 0))) else (some (false, 1)))) else (some (false, 1)))) else (some (false, 1)))
set_option maxHeartbeats 8000000 in
set_option maxRecDepth 100000 in
theorem line_Between.calls (a0 : Int) (a1 : Int) (a2 : Int) (r1 : Bool) (r2 : Int) (w : World) (h : line_Between.f a0 a1 a2 = some (r1, r2)) :
    Calls Try.prog 16 #[.int .i64 a0, .int .i64 a1, .int .i64 a2] w fun e w' => e = .returned (.tuple #[.bool r1, .int .i64 r2]) ∧ Below w.heap.size w w' := by
  have HB := Aside0.mk (Below.refl w.heap.size w)
  have H : ((line_Is.f a0).bind fun t102 => (if t102 = true then ((line_Is.f a1).bind fun t103 => (if t103 = true then ((line_Is.f a2).bind fun t104 => (if t104 = true then (if (mn a0 a1) ≤ a2 then (some (decide (a2 ≤ (mx a0 a1)), 0)) else (some (false, 0))) else (some (false, 1)))) else (some (false, 1)))) else (some (false, 1)))) = some (r1, r2) := h
  clear h
  replace H := Option.bind_eq_some_iff.mp H
  obtain ⟨t102, A40, H⟩ := H
  replace H : (if t102 = true then ((line_Is.f a1).bind fun t103 => (if t103 = true then ((line_Is.f a2).bind fun t104 => (if t104 = true then (if (mn a0 a1) ≤ a2 then (some (decide (a2 ≤ (mx a0 a1)), 0)) else (some (false, 0))) else (some (false, 1)))) else (some (false, 1)))) else (some (false, 1))) = some (r1, r2) := H
  have A4 := Aside0.mk A40
  clear A40
  by_cases c5 : t102 = true
  · subst c5
    have H1 : ((line_Is.f a1).bind fun t103 => (if t103 = true then ((line_Is.f a2).bind fun t104 => (if t104 = true then (if (mn a0 a1) ≤ a2 then (some (decide (a2 ≤ (mx a0 a1)), 0)) else (some (false, 0))) else (some (false, 1)))) else (some (false, 1)))) = some (r1, r2) := by rw [if_pos rfl] at H; exact H
    clear H
    have H := H1
    clear H1
    replace H := Option.bind_eq_some_iff.mp H
    obtain ⟨t103, A60, H⟩ := H
    replace H : (if t103 = true then ((line_Is.f a2).bind fun t104 => (if t104 = true then (if (mn a0 a1) ≤ a2 then (some (decide (a2 ≤ (mx a0 a1)), 0)) else (some (false, 0))) else (some (false, 1)))) else (some (false, 1))) = some (r1, r2) := H
    have A6 := Aside0.mk A60
    clear A60
    by_cases c7 : t103 = true
    · subst c7
      have H1 : ((line_Is.f a2).bind fun t104 => (if t104 = true then (if (mn a0 a1) ≤ a2 then (some (decide (a2 ≤ (mx a0 a1)), 0)) else (some (false, 0))) else (some (false, 1)))) = some (r1, r2) := by rw [if_pos rfl] at H; exact H
      clear H
      have H := H1
      clear H1
      replace H := Option.bind_eq_some_iff.mp H
      obtain ⟨t104, A80, H⟩ := H
      replace H : (if t104 = true then (if (mn a0 a1) ≤ a2 then (some (decide (a2 ≤ (mx a0 a1)), 0)) else (some (false, 0))) else (some (false, 1))) = some (r1, r2) := H
      have A8 := Aside0.mk A80
      clear A80
      by_cases c9 : t104 = true
      · subst c9
        have H1 : (if (mn a0 a1) ≤ a2 then (some (decide (a2 ≤ (mx a0 a1)), 0)) else (some (false, 0))) = some (r1, r2) := by rw [if_pos rfl] at H; exact H
        clear H
        have H := H1
        clear H1
        obtain ⟨ji10, hji10⟩ : ∃ j_ : Int, (mn a0 a1) = j_ := ⟨_, rfl⟩
        replace H : (if (ji10) ≤ a2 then (some (decide (a2 ≤ (mx a0 a1)), 0)) else (some (false, 0))) = some (r1, r2) := by first | (rw [hji10] at H; exact H) | (simp only [hji10] at H ⊢; exact H)
        (try rw [hji10] at A4)
        (try rw [hji10] at A6)
        (try rw [hji10] at A8)
        have hji10_ : (if a1 < a0 then a1 else a0) = ji10 := hji10
        by_cases c11 : (ji10) ≤ a2
        · rw [if_pos c11] at H
          have c11b0 : decide ((ji10) ≤ a2) = true := decide_eq_true c11
          clear c11
          obtain ⟨ji12, hji12⟩ : ∃ j_ : Int, (mx a0 a1) = j_ := ⟨_, rfl⟩
          replace H : (some (decide (a2 ≤ (ji12)), 0)) = some (r1, r2) := by first | (rw [hji12] at H; exact H) | (simp only [hji12] at H ⊢; exact H)
          (try rw [hji12] at A4)
          (try rw [hji12] at A6)
          (try rw [hji12] at A8)
          have hji12_ : (if a0 < a1 then a1 else a0) = ji12 := hji12
          simp only [Option.some.injEq, Prod.mk.injEq] at H
          obtain ⟨rfl, rfl⟩ := H
          go_enter Try.func16, Try.ntmps16
          go_wp2_with (first | ((with_reducible refine gate_callee (f := 19) rfl ?_); refine goesL_ (some 9) rfl rfl Try.func19 (by kernel_rfl) rfl #[.int .i64 a0] rfl (by (try simp only [List.map_toArray, List.map_cons, List.map_nil]); first | done | rfl | (simp only [List.length_drop, List.length_take]; rfl)) ?_; (with_reducible refine (line_Is.calls a0 true _ A4.out).mono ?_); rintro e w' ⟨rfl, ⟨nd, rfl⟩⟩; refine ⟨_, rfl, ?_⟩; (try clear A4)) | (go_at_call 19; (with_reducible refine (line_Is.calls a1 true _ A6.out).mono ?_); rintro e w' ⟨rfl, ⟨nd, rfl⟩⟩; (try clear A6)) | (go_at_call 19; (with_reducible refine (line_Is.calls a2 true _ A8.out).mono ?_); rintro e w' ⟨rfl, ⟨nd, rfl⟩⟩; (try clear A8)))
          go_ret2
          exact ⟨by first | rfl | (simp [errW_none, errW_some] <;> rfl) | (simp only [← hji10, ← hji12]; first | rfl | (simp [errW_none, errW_some] <;> rfl)) | (simp [*, errW_none, errW_some] <;> rfl), by repeat (first | (with_reducible first | exact HB.out | apply below_alloc | apply pw_below_drewN | apply below_drew1) | exact HB.out)⟩
        · rw [if_neg c11] at H
          have c11b0 : decide ((ji10) ≤ a2) = false := decide_eq_false c11
          clear c11
          simp only [Option.some.injEq, Prod.mk.injEq] at H
          obtain ⟨rfl, rfl⟩ := H
          go_enter Try.func16, Try.ntmps16
          go_wp2_with (first | ((with_reducible refine gate_callee (f := 19) rfl ?_); refine goesL_ (some 9) rfl rfl Try.func19 (by kernel_rfl) rfl #[.int .i64 a0] rfl (by (try simp only [List.map_toArray, List.map_cons, List.map_nil]); first | done | rfl | (simp only [List.length_drop, List.length_take]; rfl)) ?_; (with_reducible refine (line_Is.calls a0 true _ A4.out).mono ?_); rintro e w' ⟨rfl, ⟨nd, rfl⟩⟩; refine ⟨_, rfl, ?_⟩; (try clear A4)) | (go_at_call 19; (with_reducible refine (line_Is.calls a1 true _ A6.out).mono ?_); rintro e w' ⟨rfl, ⟨nd, rfl⟩⟩; (try clear A6)) | (go_at_call 19; (with_reducible refine (line_Is.calls a2 true _ A8.out).mono ?_); rintro e w' ⟨rfl, ⟨nd, rfl⟩⟩; (try clear A8)))
          go_ret2
          exact ⟨by first | rfl | (simp [errW_none, errW_some] <;> rfl) | (simp only [← hji10]; first | rfl | (simp [errW_none, errW_some] <;> rfl)) | (simp [*, errW_none, errW_some] <;> rfl), by repeat (first | (with_reducible first | exact HB.out | apply below_alloc | apply pw_below_drewN | apply below_drew1) | exact HB.out)⟩
      · replace c9 := Bool.eq_false_iff.mpr c9
        subst c9
        have H1 : (some (false, 1)) = some (r1, r2) := by rw [if_neg (show ¬ (false = true) by decide)] at H; exact H
        clear H
        have H := H1
        clear H1
        simp only [Option.some.injEq, Prod.mk.injEq] at H
        obtain ⟨rfl, rfl⟩ := H
        go_enter Try.func16, Try.ntmps16
        go_wp2_with (first | ((with_reducible refine gate_callee (f := 19) rfl ?_); refine goesL_ (some 9) rfl rfl Try.func19 (by kernel_rfl) rfl #[.int .i64 a0] rfl (by (try simp only [List.map_toArray, List.map_cons, List.map_nil]); first | done | rfl | (simp only [List.length_drop, List.length_take]; rfl)) ?_; (with_reducible refine (line_Is.calls a0 true _ A4.out).mono ?_); rintro e w' ⟨rfl, ⟨nd, rfl⟩⟩; refine ⟨_, rfl, ?_⟩; (try clear A4)) | (go_at_call 19; (with_reducible refine (line_Is.calls a1 true _ A6.out).mono ?_); rintro e w' ⟨rfl, ⟨nd, rfl⟩⟩; (try clear A6)) | (go_at_call 19; (with_reducible refine (line_Is.calls a2 false _ A8.out).mono ?_); rintro e w' ⟨rfl, ⟨nd, rfl⟩⟩; (try clear A8)))
        go_ret2
        exact ⟨by first | rfl | (simp [errW_none, errW_some] <;> rfl) | (simp [*, errW_none, errW_some] <;> rfl), by repeat (first | (with_reducible first | exact HB.out | apply below_alloc | apply pw_below_drewN | apply below_drew1) | exact HB.out)⟩
    · replace c7 := Bool.eq_false_iff.mpr c7
      subst c7
      have H1 : (some (false, 1)) = some (r1, r2) := by rw [if_neg (show ¬ (false = true) by decide)] at H; exact H
      clear H
      have H := H1
      clear H1
      simp only [Option.some.injEq, Prod.mk.injEq] at H
      obtain ⟨rfl, rfl⟩ := H
      go_enter Try.func16, Try.ntmps16
      go_wp2_with (first | ((with_reducible refine gate_callee (f := 19) rfl ?_); refine goesL_ (some 9) rfl rfl Try.func19 (by kernel_rfl) rfl #[.int .i64 a0] rfl (by (try simp only [List.map_toArray, List.map_cons, List.map_nil]); first | done | rfl | (simp only [List.length_drop, List.length_take]; rfl)) ?_; (with_reducible refine (line_Is.calls a0 true _ A4.out).mono ?_); rintro e w' ⟨rfl, ⟨nd, rfl⟩⟩; refine ⟨_, rfl, ?_⟩; (try clear A4)) | (go_at_call 19; (with_reducible refine (line_Is.calls a1 false _ A6.out).mono ?_); rintro e w' ⟨rfl, ⟨nd, rfl⟩⟩; (try clear A6)))
      go_ret2
      exact ⟨by first | rfl | (simp [errW_none, errW_some] <;> rfl) | (simp [*, errW_none, errW_some] <;> rfl), by repeat (first | (with_reducible first | exact HB.out | apply below_alloc | apply pw_below_drewN | apply below_drew1) | exact HB.out)⟩
  · replace c5 := Bool.eq_false_iff.mpr c5
    subst c5
    have H1 : (some (false, 1)) = some (r1, r2) := by rw [if_neg (show ¬ (false = true) by decide)] at H; exact H
    clear H
    have H := H1
    clear H1
    simp only [Option.some.injEq, Prod.mk.injEq] at H
    obtain ⟨rfl, rfl⟩ := H
    go_enter Try.func16, Try.ntmps16
    go_wp2_with (first | ((with_reducible refine gate_callee (f := 19) rfl ?_); refine goesL_ (some 9) rfl rfl Try.func19 (by kernel_rfl) rfl #[.int .i64 a0] rfl (by (try simp only [List.map_toArray, List.map_cons, List.map_nil]); first | done | rfl | (simp only [List.length_drop, List.length_take]; rfl)) ?_; (with_reducible refine (line_Is.calls a0 false _ A4.out).mono ?_); rintro e w' ⟨rfl, ⟨nd, rfl⟩⟩; refine ⟨_, rfl, ?_⟩; (try clear A4)))
    go_ret2
    exact ⟨by first | rfl | (simp [errW_none, errW_some] <;> rfl) | (simp [*, errW_none, errW_some] <;> rfl), by repeat (first | (with_reducible first | exact HB.out | apply below_alloc | apply pw_below_drewN | apply below_drew1) | exact HB.out)⟩

/-! ### gatelineref07_Between: function 17 -/
def gatelineref07_Between.f (a0 : Int) (a1 : Int) (a2 : Int) : Option (Bool × Int) := (gatelineref07_Is.f a0).bind fun t105 => (if t105 = true then ((gatelineref07_Is.f a1).bind fun t106 => (if t106 = true then ((gatelineref07_Is.f a2).bind fun t107 => (if t107 = true then (if a0 ≤ a2 then (if a2 ≤ a1 then (some (true, 0)) else (if a1 ≤ a2 then (some (decide (a2 ≤ a0), 0)) else (some (false, 0)))) else (if a1 ≤ a2 then (some (decide (a2 ≤ a0), 0)) else (some (false, 0)))) else (some (false, 1)))) else (some (false, 1)))) else (some (false, 1)))
set_option maxHeartbeats 8000000 in
set_option maxRecDepth 100000 in
theorem gatelineref07_Between.calls (a0 : Int) (a1 : Int) (a2 : Int) (r1 : Bool) (r2 : Int) (w : World) (h : gatelineref07_Between.f a0 a1 a2 = some (r1, r2)) :
    Calls Try.prog 17 #[.int .i64 a0, .int .i64 a1, .int .i64 a2] w fun e w' => e = .returned (.tuple #[.bool r1, .int .i64 r2]) ∧ Drawn0 w w' := by
  have H : ((gatelineref07_Is.f a0).bind fun t105 => (if t105 = true then ((gatelineref07_Is.f a1).bind fun t106 => (if t106 = true then ((gatelineref07_Is.f a2).bind fun t107 => (if t107 = true then (if a0 ≤ a2 then (if a2 ≤ a1 then (some (true, 0)) else (if a1 ≤ a2 then (some (decide (a2 ≤ a0), 0)) else (some (false, 0)))) else (if a1 ≤ a2 then (some (decide (a2 ≤ a0), 0)) else (some (false, 0)))) else (some (false, 1)))) else (some (false, 1)))) else (some (false, 1)))) = some (r1, r2) := h
  clear h
  replace H := Option.bind_eq_some_iff.mp H
  obtain ⟨t105, A40, H⟩ := H
  replace H : (if t105 = true then ((gatelineref07_Is.f a1).bind fun t106 => (if t106 = true then ((gatelineref07_Is.f a2).bind fun t107 => (if t107 = true then (if a0 ≤ a2 then (if a2 ≤ a1 then (some (true, 0)) else (if a1 ≤ a2 then (some (decide (a2 ≤ a0), 0)) else (some (false, 0)))) else (if a1 ≤ a2 then (some (decide (a2 ≤ a0), 0)) else (some (false, 0)))) else (some (false, 1)))) else (some (false, 1)))) else (some (false, 1))) = some (r1, r2) := H
  have A4 := Aside0.mk A40
  clear A40
  by_cases c5 : t105 = true
  · subst c5
    have H1 : ((gatelineref07_Is.f a1).bind fun t106 => (if t106 = true then ((gatelineref07_Is.f a2).bind fun t107 => (if t107 = true then (if a0 ≤ a2 then (if a2 ≤ a1 then (some (true, 0)) else (if a1 ≤ a2 then (some (decide (a2 ≤ a0), 0)) else (some (false, 0)))) else (if a1 ≤ a2 then (some (decide (a2 ≤ a0), 0)) else (some (false, 0)))) else (some (false, 1)))) else (some (false, 1)))) = some (r1, r2) := by rw [if_pos rfl] at H; exact H
    clear H
    have H := H1
    clear H1
    replace H := Option.bind_eq_some_iff.mp H
    obtain ⟨t106, A60, H⟩ := H
    replace H : (if t106 = true then ((gatelineref07_Is.f a2).bind fun t107 => (if t107 = true then (if a0 ≤ a2 then (if a2 ≤ a1 then (some (true, 0)) else (if a1 ≤ a2 then (some (decide (a2 ≤ a0), 0)) else (some (false, 0)))) else (if a1 ≤ a2 then (some (decide (a2 ≤ a0), 0)) else (some (false, 0)))) else (some (false, 1)))) else (some (false, 1))) = some (r1, r2) := H
    have A6 := Aside0.mk A60
    clear A60
    by_cases c7 : t106 = true
    · subst c7
      have H1 : ((gatelineref07_Is.f a2).bind fun t107 => (if t107 = true then (if a0 ≤ a2 then (if a2 ≤ a1 then (some (true, 0)) else (if a1 ≤ a2 then (some (decide (a2 ≤ a0), 0)) else (some (false, 0)))) else (if a1 ≤ a2 then (some (decide (a2 ≤ a0), 0)) else (some (false, 0)))) else (some (false, 1)))) = some (r1, r2) := by rw [if_pos rfl] at H; exact H
      clear H
      have H := H1
      clear H1
      replace H := Option.bind_eq_some_iff.mp H
      obtain ⟨t107, A80, H⟩ := H
      replace H : (if t107 = true then (if a0 ≤ a2 then (if a2 ≤ a1 then (some (true, 0)) else (if a1 ≤ a2 then (some (decide (a2 ≤ a0), 0)) else (some (false, 0)))) else (if a1 ≤ a2 then (some (decide (a2 ≤ a0), 0)) else (some (false, 0)))) else (some (false, 1))) = some (r1, r2) := H
      have A8 := Aside0.mk A80
      clear A80
      by_cases c9 : t107 = true
      · subst c9
        have H1 : (if a0 ≤ a2 then (if a2 ≤ a1 then (some (true, 0)) else (if a1 ≤ a2 then (some (decide (a2 ≤ a0), 0)) else (some (false, 0)))) else (if a1 ≤ a2 then (some (decide (a2 ≤ a0), 0)) else (some (false, 0)))) = some (r1, r2) := by rw [if_pos rfl] at H; exact H
        clear H
        have H := H1
        clear H1
        by_cases c10 : a0 ≤ a2
        · rw [if_pos c10] at H
          have c10b0 : decide (a0 ≤ a2) = true := decide_eq_true c10
          clear c10
          by_cases c11 : a2 ≤ a1
          · rw [if_pos c11] at H
            have c11b0 : decide (a2 ≤ a1) = true := decide_eq_true c11
            clear c11
            simp only [Option.some.injEq, Prod.mk.injEq] at H
            obtain ⟨rfl, rfl⟩ := H
            go_enter Try.func17, Try.ntmps17
            go_wp2_with (first | ((with_reducible refine gate_callee (f := 20) rfl ?_); refine goesL_ (some 9) rfl rfl Try.func20 (by kernel_rfl) rfl #[.int .i64 a0] rfl (by (try simp only [List.map_toArray, List.map_cons, List.map_nil]); first | done | rfl | (simp only [List.length_drop, List.length_take]; rfl)) ?_; (with_reducible refine (gatelineref07_Is.calls a0 true _ A4.out).mono ?_); rintro e w' ⟨rfl, ⟨nd, rfl⟩⟩; refine ⟨_, rfl, ?_⟩; (try clear A4)) | (go_at_call 20; (with_reducible refine (gatelineref07_Is.calls a1 true _ A6.out).mono ?_); rintro e w' ⟨rfl, ⟨nd, rfl⟩⟩; (try clear A6)) | (go_at_call 20; (with_reducible refine (gatelineref07_Is.calls a2 true _ A8.out).mono ?_); rintro e w' ⟨rfl, ⟨nd, rfl⟩⟩; (try clear A8)))
            go_ret2
            exact ⟨by first | rfl | (simp; done) | (simp [*]; done), by repeat (first | exact Drawn0.refl _ | apply Drawn0.step)⟩
          · rw [if_neg c11] at H
            have c11b0 : decide (a2 ≤ a1) = false := decide_eq_false c11
            clear c11
            by_cases c12 : a1 ≤ a2
            · rw [if_pos c12] at H
              have c12b0 : decide (a1 ≤ a2) = true := decide_eq_true c12
              clear c12
              simp only [Option.some.injEq, Prod.mk.injEq] at H
              obtain ⟨rfl, rfl⟩ := H
              go_enter Try.func17, Try.ntmps17
              go_wp2_with (first | ((with_reducible refine gate_callee (f := 20) rfl ?_); refine goesL_ (some 9) rfl rfl Try.func20 (by kernel_rfl) rfl #[.int .i64 a0] rfl (by (try simp only [List.map_toArray, List.map_cons, List.map_nil]); first | done | rfl | (simp only [List.length_drop, List.length_take]; rfl)) ?_; (with_reducible refine (gatelineref07_Is.calls a0 true _ A4.out).mono ?_); rintro e w' ⟨rfl, ⟨nd, rfl⟩⟩; refine ⟨_, rfl, ?_⟩; (try clear A4)) | (go_at_call 20; (with_reducible refine (gatelineref07_Is.calls a1 true _ A6.out).mono ?_); rintro e w' ⟨rfl, ⟨nd, rfl⟩⟩; (try clear A6)) | (go_at_call 20; (with_reducible refine (gatelineref07_Is.calls a2 true _ A8.out).mono ?_); rintro e w' ⟨rfl, ⟨nd, rfl⟩⟩; (try clear A8)))
              go_ret2
              exact ⟨by first | rfl | (simp; done) | (simp [*]; done), by repeat (first | exact Drawn0.refl _ | apply Drawn0.step)⟩
            · rw [if_neg c12] at H
              have c12b0 : decide (a1 ≤ a2) = false := decide_eq_false c12
              clear c12
              simp only [Option.some.injEq, Prod.mk.injEq] at H
              obtain ⟨rfl, rfl⟩ := H
              go_enter Try.func17, Try.ntmps17
              go_wp2_with (first | ((with_reducible refine gate_callee (f := 20) rfl ?_); refine goesL_ (some 9) rfl rfl Try.func20 (by kernel_rfl) rfl #[.int .i64 a0] rfl (by (try simp only [List.map_toArray, List.map_cons, List.map_nil]); first | done | rfl | (simp only [List.length_drop, List.length_take]; rfl)) ?_; (with_reducible refine (gatelineref07_Is.calls a0 true _ A4.out).mono ?_); rintro e w' ⟨rfl, ⟨nd, rfl⟩⟩; refine ⟨_, rfl, ?_⟩; (try clear A4)) | (go_at_call 20; (with_reducible refine (gatelineref07_Is.calls a1 true _ A6.out).mono ?_); rintro e w' ⟨rfl, ⟨nd, rfl⟩⟩; (try clear A6)) | (go_at_call 20; (with_reducible refine (gatelineref07_Is.calls a2 true _ A8.out).mono ?_); rintro e w' ⟨rfl, ⟨nd, rfl⟩⟩; (try clear A8)))
              go_ret2
              exact ⟨by first | rfl | (simp; done) | (simp [*]; done), by repeat (first | exact Drawn0.refl _ | apply Drawn0.step)⟩
        · rw [if_neg c10] at H
          have c10b0 : decide (a0 ≤ a2) = false := decide_eq_false c10
          clear c10
          by_cases c13 : a1 ≤ a2
          · rw [if_pos c13] at H
            have c13b0 : decide (a1 ≤ a2) = true := decide_eq_true c13
            clear c13
            simp only [Option.some.injEq, Prod.mk.injEq] at H
            obtain ⟨rfl, rfl⟩ := H
            go_enter Try.func17, Try.ntmps17
            go_wp2_with (first | ((with_reducible refine gate_callee (f := 20) rfl ?_); refine goesL_ (some 9) rfl rfl Try.func20 (by kernel_rfl) rfl #[.int .i64 a0] rfl (by (try simp only [List.map_toArray, List.map_cons, List.map_nil]); first | done | rfl | (simp only [List.length_drop, List.length_take]; rfl)) ?_; (with_reducible refine (gatelineref07_Is.calls a0 true _ A4.out).mono ?_); rintro e w' ⟨rfl, ⟨nd, rfl⟩⟩; refine ⟨_, rfl, ?_⟩; (try clear A4)) | (go_at_call 20; (with_reducible refine (gatelineref07_Is.calls a1 true _ A6.out).mono ?_); rintro e w' ⟨rfl, ⟨nd, rfl⟩⟩; (try clear A6)) | (go_at_call 20; (with_reducible refine (gatelineref07_Is.calls a2 true _ A8.out).mono ?_); rintro e w' ⟨rfl, ⟨nd, rfl⟩⟩; (try clear A8)))
            go_ret2
            exact ⟨by first | rfl | (simp; done) | (simp [*]; done), by repeat (first | exact Drawn0.refl _ | apply Drawn0.step)⟩
          · rw [if_neg c13] at H
            have c13b0 : decide (a1 ≤ a2) = false := decide_eq_false c13
            clear c13
            simp only [Option.some.injEq, Prod.mk.injEq] at H
            obtain ⟨rfl, rfl⟩ := H
            go_enter Try.func17, Try.ntmps17
            go_wp2_with (first | ((with_reducible refine gate_callee (f := 20) rfl ?_); refine goesL_ (some 9) rfl rfl Try.func20 (by kernel_rfl) rfl #[.int .i64 a0] rfl (by (try simp only [List.map_toArray, List.map_cons, List.map_nil]); first | done | rfl | (simp only [List.length_drop, List.length_take]; rfl)) ?_; (with_reducible refine (gatelineref07_Is.calls a0 true _ A4.out).mono ?_); rintro e w' ⟨rfl, ⟨nd, rfl⟩⟩; refine ⟨_, rfl, ?_⟩; (try clear A4)) | (go_at_call 20; (with_reducible refine (gatelineref07_Is.calls a1 true _ A6.out).mono ?_); rintro e w' ⟨rfl, ⟨nd, rfl⟩⟩; (try clear A6)) | (go_at_call 20; (with_reducible refine (gatelineref07_Is.calls a2 true _ A8.out).mono ?_); rintro e w' ⟨rfl, ⟨nd, rfl⟩⟩; (try clear A8)))
            go_ret2
            exact ⟨by first | rfl | (simp; done) | (simp [*]; done), by repeat (first | exact Drawn0.refl _ | apply Drawn0.step)⟩
      · replace c9 := Bool.eq_false_iff.mpr c9
        subst c9
        have H1 : (some (false, 1)) = some (r1, r2) := by rw [if_neg (show ¬ (false = true) by decide)] at H; exact H
        clear H
        have H := H1
        clear H1
        simp only [Option.some.injEq, Prod.mk.injEq] at H
        obtain ⟨rfl, rfl⟩ := H
        go_enter Try.func17, Try.ntmps17
        go_wp2_with (first | ((with_reducible refine gate_callee (f := 20) rfl ?_); refine goesL_ (some 9) rfl rfl Try.func20 (by kernel_rfl) rfl #[.int .i64 a0] rfl (by (try simp only [List.map_toArray, List.map_cons, List.map_nil]); first | done | rfl | (simp only [List.length_drop, List.length_take]; rfl)) ?_; (with_reducible refine (gatelineref07_Is.calls a0 true _ A4.out).mono ?_); rintro e w' ⟨rfl, ⟨nd, rfl⟩⟩; refine ⟨_, rfl, ?_⟩; (try clear A4)) | (go_at_call 20; (with_reducible refine (gatelineref07_Is.calls a1 true _ A6.out).mono ?_); rintro e w' ⟨rfl, ⟨nd, rfl⟩⟩; (try clear A6)) | (go_at_call 20; (with_reducible refine (gatelineref07_Is.calls a2 false _ A8.out).mono ?_); rintro e w' ⟨rfl, ⟨nd, rfl⟩⟩; (try clear A8)))
        go_ret2
        exact ⟨by first | rfl | (simp; done) | (simp [*]; done), by repeat (first | exact Drawn0.refl _ | apply Drawn0.step)⟩
    · replace c7 := Bool.eq_false_iff.mpr c7
      subst c7
      have H1 : (some (false, 1)) = some (r1, r2) := by rw [if_neg (show ¬ (false = true) by decide)] at H; exact H
      clear H
      have H := H1
      clear H1
      simp only [Option.some.injEq, Prod.mk.injEq] at H
      obtain ⟨rfl, rfl⟩ := H
      go_enter Try.func17, Try.ntmps17
      go_wp2_with (first | ((with_reducible refine gate_callee (f := 20) rfl ?_); refine goesL_ (some 9) rfl rfl Try.func20 (by kernel_rfl) rfl #[.int .i64 a0] rfl (by (try simp only [List.map_toArray, List.map_cons, List.map_nil]); first | done | rfl | (simp only [List.length_drop, List.length_take]; rfl)) ?_; (with_reducible refine (gatelineref07_Is.calls a0 true _ A4.out).mono ?_); rintro e w' ⟨rfl, ⟨nd, rfl⟩⟩; refine ⟨_, rfl, ?_⟩; (try clear A4)) | (go_at_call 20; (with_reducible refine (gatelineref07_Is.calls a1 false _ A6.out).mono ?_); rintro e w' ⟨rfl, ⟨nd, rfl⟩⟩; (try clear A6)))
      go_ret2
      exact ⟨by first | rfl | (simp; done) | (simp [*]; done), by repeat (first | exact Drawn0.refl _ | apply Drawn0.step)⟩
  · replace c5 := Bool.eq_false_iff.mpr c5
    subst c5
    have H1 : (some (false, 1)) = some (r1, r2) := by rw [if_neg (show ¬ (false = true) by decide)] at H; exact H
    clear H
    have H := H1
    clear H1
    simp only [Option.some.injEq, Prod.mk.injEq] at H
    obtain ⟨rfl, rfl⟩ := H
    go_enter Try.func17, Try.ntmps17
    go_wp2_with (first | ((with_reducible refine gate_callee (f := 20) rfl ?_); refine goesL_ (some 9) rfl rfl Try.func20 (by kernel_rfl) rfl #[.int .i64 a0] rfl (by (try simp only [List.map_toArray, List.map_cons, List.map_nil]); first | done | rfl | (simp only [List.length_drop, List.length_take]; rfl)) ?_; (with_reducible refine (gatelineref07_Is.calls a0 false _ A4.out).mono ?_); rintro e w' ⟨rfl, ⟨nd, rfl⟩⟩; refine ⟨_, rfl, ?_⟩; (try clear A4)))
    go_ret2
    exact ⟨by first | rfl | (simp; done) | (simp [*]; done), by repeat (first | exact Drawn0.refl _ | apply Drawn0.step)⟩

/-! ### line_Zones: function 21 (a contract proved by hand) -/
def line_Zones.f (a0 a1 : Int) : Option (Int × Int × Int) := some (G.zonesR a0 a1)
theorem line_Zones.calls (a0 : Int) (a1 : Int) (r1 r2 r3 : Int) (w : World) (h : line_Zones.f a0 a1 = some (r1, r2, r3)) : Calls Try.prog 21 #[.int .i64 a0, .int .i64 a1] w fun e w' => e = .returned (.tuple #[.int .i64 r1, .int .i64 r2, .int .i64 r3]) ∧ Below w.heap.size w w' := by
  unfold line_Zones.f at h
  rw [Option.some.injEq] at h
  have hc := G.zones_all a0 a1 w
  rw [h] at hc
  exact hc

/-! ### line_Stations: function 23 (a contract proved by hand) -/
def line_Stations.f (a0 a1 : Int) : Option (List Int × Int) := some (G.stationsR a0 a1)
theorem line_Stations.calls (a0 : Int) (a1 : Int) (r1 : List Int) (r2 : Int) (w : World) (h : line_Stations.f a0 a1 = some (r1, r2)) : Calls Try.prog 23 #[.int .i64 a0, .int .i64 a1] w fun e w' => ∃ v0_ : Value, e = .returned (.tuple #[v0_, .int .i64 r2]) ∧ Kd.R (Kd.int .i64) 3 w' w.heap.size (fun _ => True) v0_ r1 ∧ Below w.heap.size w w' := by
  unfold line_Stations.f at h
  rw [Option.some.injEq] at h
  have hc := G.stations_all a0 a1 w
  rw [h] at hc
  exact hc

/-! ### gatelineref07_Same: function 25 -/
def gatelineref07_Same.l0 : Nat → List Int → List Int → Int → Option (Bool)
  | 0, _, _, _ => none
  | k + 1, x0, x1, x5 => if x5 < (x0.length : Int) then (if 0 ≤ x5 then (if x5 < (x1.length : Int) then (if (rd x0 x5) = (rd x1 x5) then (gatelineref07_Same.l0 k x0 x1 (wrap64 (x5 + 1))) else (some false)) else (none)) else (none)) else (some true)
def gatelineref07_Same.f (k : Nat) (l0 : List Int) (l1 : List Int) : Option (Bool) := if (l0.length : Int) = (l1.length : Int) then (gatelineref07_Same.l0 k l0 l1 0) else (some false)
theorem gatelineref07_Same.mono_l : ∀ k, (∀ y0 y1 y2, LeO (gatelineref07_Same.l0 k y0 y1 y2) (gatelineref07_Same.l0 (k + 1) y0 y1 y2))
  | 0 => fun _ _ _ r h => by simp [gatelineref07_Same.l0] at h
  | k + 1 => by
    have ih0 := gatelineref07_Same.mono_l k
    · intro y0 y1 y2
      unfold gatelineref07_Same.l0
      repeat' first
      | (with_reducible exact ih0 _ _ _)
      | (with_reducible exact LeO.refl _)
      | (with_reducible exact LeO.none _)
      | (with_reducible refine LeO.ite ?_ ?_)
      | (with_reducible refine LeO.bind ?_ (fun _ => ?_))
      | exact ih0 _ _ _
      | exact LeO.none _
      | refine LeO.ite ?_ ?_
      | refine LeO.bind ?_ (fun _ => ?_)
theorem gatelineref07_Same.mono : ∀ a0 a1 k, LeO (gatelineref07_Same.f k a0 a1) (gatelineref07_Same.f (k + 1) a0 a1) := by
  intro a0 a1 k
  have ih0 := gatelineref07_Same.mono_l k
  unfold gatelineref07_Same.f
  repeat' first
      | (with_reducible exact ih0 _ _ _)
      | (with_reducible exact LeO.refl _)
      | (with_reducible exact LeO.none _)
      | (with_reducible refine LeO.ite ?_ ?_)
      | (with_reducible refine LeO.bind ?_ (fun _ => ?_))
      | exact ih0 _ _ _
      | exact LeO.none _
      | refine LeO.ite ?_ ?_
      | refine LeO.bind ?_ (fun _ => ?_)
set_option maxHeartbeats 8000000 in
set_option maxRecDepth 100000 in
theorem gatelineref07_Same.calls (k : Nat) (A0 : Option Addr) (c0 : Nat) (l0 : List Int) (A1 : Option Addr) (c1 : Nat) (l1 : List Int) (r : Bool) (w : World) (hr0 : Kd.C (Kd.int .i64) w A0 l0.length l0) (hc0 : l0.length ≤ c0) (hr1 : Kd.C (Kd.int .i64) w A1 l1.length l1) (hc1 : l1.length ≤ c1) (h : gatelineref07_Same.f k l0 l1 = some r) :
    Calls Try.prog 25 #[.slice A0 l0.length c0, .slice A1 l1.length c1] w fun e w' => e = .returned (.bool r) ∧ Drawn0 w w' := by
  have HR0 := Aside0.mk hr0
  have HC0 := Aside0.mk hc0
  clear hr0 hc0
  have HR1 := Aside0.mk hr1
  have HC1 := Aside0.mk hc1
  clear hr1 hc1
  have H : (if (l0.length : Int) = (l1.length : Int) then (gatelineref07_Same.l0 k l0 l1 0) else (some false)) = some r := h
  clear h
  by_cases c3 : (l0.length : Int) = (l1.length : Int)
  · rw [if_pos c3] at H
    have c3b0 : ((l0.length : Int) == (l1.length : Int)) = true := beq_iff_eq.mpr c3
    have c3b1 : ((l0.length : Int) != (l1.length : Int)) = false := bne_eq_false_iff_eq.mpr c3
    have c3b2 : (l0.length == l1.length) = true := by first | simpa using c3 | (simp at c3 ⊢; omega)
    clear c3
    have H' := Aside0.mk H
    clear H
    go_enter Try.func25, Try.ntmps25
    go_wp2
    repeat (go_quiet (fail); try go_wp2)
    go_loopg [5] k (fun kq v5 w' => ∃ (x5_1 : Int), v5 = .int .i64 x5_1 ∧ Aside0 (gatelineref07_Same.l0 kq l0 l1 x5_1 = some r) ∧ Aside0 (kq ≤ k) ∧ Drawn0 w w')
    case atStart => exact ⟨(0), (by first | rfl | (simp; done) | (simp [*]; done)), H', ⟨Nat.le_refl _⟩, by repeat (first | exact Drawn0.refl _ | apply Drawn0.step)⟩
    case round =>
      clear H'
      try clear c1
      try clear c2
      try clear p2
      try clear c3
      try clear c3b0
      try clear c3b1
      try clear c3b2
      obtain ⟨x5_1, rfl, HA, HK1, ⟨m1, rfl⟩⟩ := hrel
      cases gk with
      | zero => exact absurd HA.out (by simp [gatelineref07_Same.l0])
      | succ k1 =>
        have H := HA.out
        clear HA
        simp only [gatelineref07_Same.l0] at H
        by_cases c4 : x5_1 < (l0.length : Int)
        · rw [if_pos c4] at H
          have c4b0 : decide (x5_1 < (l0.length : Int)) = true := decide_eq_true c4
          clear c4
          by_cases c5 : 0 ≤ x5_1
          · rw [if_pos c5] at H
            have c5b0 : decide (0 ≤ x5_1) = true := decide_eq_true c5
            clear c5
            by_cases c6 : x5_1 < (l1.length : Int)
            · rw [if_pos c6] at H
              have c6b0 : decide (x5_1 < (l1.length : Int)) = true := decide_eq_true c6
              clear c6
              by_cases c7 : (rd l0 x5_1) = (rd l1 x5_1)
              · rw [if_pos c7] at H
                have c7b0 : ((rd l0 x5_1) == (rd l1 x5_1)) = true := beq_iff_eq.mpr c7
                have c7b1 : ((rd l0 x5_1) != (rd l1 x5_1)) = false := bne_eq_false_iff_eq.mpr c7
                clear c7
                have H' := Aside0.mk H
                clear H
                have p108 : 0 ≤ (x5_1 : Int) := of_decide_eq_true (by first | (with_reducible assumption) | assumption)
                have q108 : x5_1 < (l0.length : Int) := of_decide_eq_true (by first | (with_reducible assumption) | assumption)
                obtain ⟨ad108, e108, hx108_0⟩ := Kd.at_int HR0.out x5_1 p108 q108
                cases e108
                replace p108 := eq_true p108
                replace q108 := eq_true q108
                have p109 : 0 ≤ (x5_1 : Int) := of_decide_eq_true (by first | (with_reducible assumption) | assumption)
                have q109 : x5_1 < (l1.length : Int) := of_decide_eq_true (by first | (with_reducible assumption) | assumption)
                obtain ⟨ad109, e109, hx109_0⟩ := Kd.at_int HR1.out x5_1 p109 q109
                cases e109
                replace p109 := eq_true p109
                replace q109 := eq_true q109
                go_wp2
                repeat (go_quiet (fail); try go_wp2)
                go_roundg k1
                case measure => have := HK1.out; omega
                case rel => exact ⟨(wrap64 (x5_1 + 1)), (by first | rfl | (simp; done) | (simp [*]; done)), H', ⟨by have := HK1.out; omega⟩, by repeat (first | exact Drawn0.refl _ | apply Drawn0.step)⟩
              · rw [if_neg c7] at H
                have c7b0 : ((rd l0 x5_1) == (rd l1 x5_1)) = false := beq_eq_false_iff_ne.mpr c7
                have c7b1 : ((rd l0 x5_1) != (rd l1 x5_1)) = true := bne_iff_ne.mpr c7
                obtain rfl := Option.some.inj H
                have p108 : 0 ≤ (x5_1 : Int) := of_decide_eq_true (by first | (with_reducible assumption) | assumption)
                have q108 : x5_1 < (l0.length : Int) := of_decide_eq_true (by first | (with_reducible assumption) | assumption)
                obtain ⟨ad108, e108, hx108_0⟩ := Kd.at_int HR0.out x5_1 p108 q108
                cases e108
                replace p108 := eq_true p108
                replace q108 := eq_true q108
                have p109 : 0 ≤ (x5_1 : Int) := of_decide_eq_true (by first | (with_reducible assumption) | assumption)
                have q109 : x5_1 < (l1.length : Int) := of_decide_eq_true (by first | (with_reducible assumption) | assumption)
                obtain ⟨ad109, e109, hx109_0⟩ := Kd.at_int HR1.out x5_1 p109 q109
                cases e109
                replace p109 := eq_true p109
                replace q109 := eq_true q109
                go_wp2
                repeat (go_quiet (fail); try go_wp2)
                go_ret
                exact ⟨by first | rfl | (simp; done) | (simp [*]; done), by repeat (first | exact Drawn0.refl _ | apply Drawn0.step)⟩
            · rw [if_neg c6] at H
              exact absurd H (by simp)
          · rw [if_neg c5] at H
            exact absurd H (by simp)
        · rw [if_neg c4] at H
          have c4b0 : decide (x5_1 < (l0.length : Int)) = false := decide_eq_false c4
          clear c4
          obtain rfl := Option.some.inj H
          go_wp2
          repeat (go_quiet (fail); try go_wp2)
          go_ret
          exact ⟨by first | rfl | (simp; done) | (simp [*]; done), by repeat (first | exact Drawn0.refl _ | apply Drawn0.step)⟩
  · rw [if_neg c3] at H
    have c3b0 : ((l0.length : Int) == (l1.length : Int)) = false := beq_eq_false_iff_ne.mpr c3
    have c3b1 : ((l0.length : Int) != (l1.length : Int)) = true := bne_iff_ne.mpr c3
    have c3b2 : (l0.length == l1.length) = false := by first | simpa using c3 | (simp at c3 ⊢; omega)
    obtain rfl := Option.some.inj H
    go_enter Try.func25, Try.ntmps25
    go_wp2
    repeat (go_quiet (fail); try go_wp2)
    go_ret
    exact ⟨by first | rfl | (simp; done) | (simp [*]; done), by repeat (first | exact Drawn0.refl _ | apply Drawn0.step)⟩

/-! ### gatelinelaw07_lined: function 18 -/
def gatelinelaw07_lined.f (k : Nat)  : Option (Bool) := (line_Zone.f 20).bind fun bt110 => ((line_Zone.f 0).bind fun bt112 => ((line_Zone.f 39).bind fun bt114 => ((line_Zone.f 40).bind fun bt116 => ((line_Between.f 30 10 30).bind fun bt118 => ((line_Between.f 10 30 31).bind fun bt120 => ((line_Zones.f 16 25).bind fun bt122 => ((line_Stations.f 5 6).bind fun bt125 => ((line_Stations.f 3 2).bind fun bt129 => (if bt110.2 = 0 then (if bt110.1 = 1 then (if bt112.2 = bt110.2 then (if bt112.1 = 6 then (if bt114.2 = bt110.2 then (if bt114.1 = 5 then (if bt116.2 = 1 then (if bt118.2 = bt110.2 then (if bt118.1 = true then (if bt120.2 = bt110.2 then (if bt120.1 = true then (none) else (if bt122.2.2 = bt110.2 then (if bt122.1 = 1 then (if bt122.2.1 = 2 then (if bt125.2 = bt110.2 then ((gatelineref07_Same.f k bt125.1 (([0, 1, 2, 3, 4, 36, 37, 38, 39] : List Int))).bind fun t136 => (if t136 = true then (if bt129.2 = bt116.2 then ((line_Is.f 39).bind fun t137 => (if t137 = true then ((line_Is.f 40).bind fun t138 => (some (!t138))) else (none))) else (none)) else (none))) else (none)) else (none)) else (none)) else (none))) else (none)) else (none)) else (none)) else (none)) else (none)) else (none)) else (none)) else (none)) else (none)) else (none))))))))))
theorem gatelinelaw07_lined.mono : ∀ k, LeO (gatelinelaw07_lined.f k ) (gatelinelaw07_lined.f (k + 1) ) := by
  intro  k
  unfold gatelinelaw07_lined.f
  repeat' first
      | (with_reducible exact gatelineref07_Same.mono _ _ _)
      | (with_reducible exact LeO.refl _)
      | (with_reducible exact LeO.none _)
      | (with_reducible refine LeO.ite ?_ ?_)
      | (with_reducible refine LeO.bind ?_ (fun _ => ?_))
      | exact gatelineref07_Same.mono _ _ _
      | exact LeO.none _
      | refine LeO.ite ?_ ?_
      | refine LeO.bind ?_ (fun _ => ?_)
set_option maxHeartbeats 8000000 in
set_option maxRecDepth 100000 in
theorem gatelinelaw07_lined.calls (k : Nat)  (r : Bool) (w : World) (h : gatelinelaw07_lined.f k  = some r) :
    Calls Try.prog 18 #[] w fun e w' => e = .returned (.bool r) ∧ Below w.heap.size w w' := by
  have HB := Aside0.mk (Below.refl w.heap.size w)
  have H : ((line_Zone.f 20).bind fun bt110 => ((line_Zone.f 0).bind fun bt112 => ((line_Zone.f 39).bind fun bt114 => ((line_Zone.f 40).bind fun bt116 => ((line_Between.f 30 10 30).bind fun bt118 => ((line_Between.f 10 30 31).bind fun bt120 => ((line_Zones.f 16 25).bind fun bt122 => ((line_Stations.f 5 6).bind fun bt125 => ((line_Stations.f 3 2).bind fun bt129 => (if bt110.2 = 0 then (if bt110.1 = 1 then (if bt112.2 = bt110.2 then (if bt112.1 = 6 then (if bt114.2 = bt110.2 then (if bt114.1 = 5 then (if bt116.2 = 1 then (if bt118.2 = bt110.2 then (if bt118.1 = true then (if bt120.2 = bt110.2 then (if bt120.1 = true then (none) else (if bt122.2.2 = bt110.2 then (if bt122.1 = 1 then (if bt122.2.1 = 2 then (if bt125.2 = bt110.2 then ((gatelineref07_Same.f k bt125.1 (([0, 1, 2, 3, 4, 36, 37, 38, 39] : List Int))).bind fun t136 => (if t136 = true then (if bt129.2 = bt116.2 then ((line_Is.f 39).bind fun t137 => (if t137 = true then ((line_Is.f 40).bind fun t138 => (some (!t138))) else (none))) else (none)) else (none))) else (none)) else (none)) else (none)) else (none))) else (none)) else (none)) else (none)) else (none)) else (none)) else (none)) else (none)) else (none)) else (none)) else (none))))))))))) = some r := h
  clear h
  replace H := Option.bind_eq_some_iff.mp H
  obtain ⟨⟨t110, t111⟩, A10, H⟩ := H
  replace H : ((line_Zone.f 0).bind fun bt112 => ((line_Zone.f 39).bind fun bt114 => ((line_Zone.f 40).bind fun bt116 => ((line_Between.f 30 10 30).bind fun bt118 => ((line_Between.f 10 30 31).bind fun bt120 => ((line_Zones.f 16 25).bind fun bt122 => ((line_Stations.f 5 6).bind fun bt125 => ((line_Stations.f 3 2).bind fun bt129 => (if t111 = 0 then (if t110 = 1 then (if bt112.2 = t111 then (if bt112.1 = 6 then (if bt114.2 = t111 then (if bt114.1 = 5 then (if bt116.2 = 1 then (if bt118.2 = t111 then (if bt118.1 = true then (if bt120.2 = t111 then (if bt120.1 = true then (none) else (if bt122.2.2 = t111 then (if bt122.1 = 1 then (if bt122.2.1 = 2 then (if bt125.2 = t111 then ((gatelineref07_Same.f k bt125.1 (([0, 1, 2, 3, 4, 36, 37, 38, 39] : List Int))).bind fun t136 => (if t136 = true then (if bt129.2 = bt116.2 then ((line_Is.f 39).bind fun t137 => (if t137 = true then ((line_Is.f 40).bind fun t138 => (some (!t138))) else (none))) else (none)) else (none))) else (none)) else (none)) else (none)) else (none))) else (none)) else (none)) else (none)) else (none)) else (none)) else (none)) else (none)) else (none)) else (none)) else (none)))))))))) = some r := H
  have A1 := Aside0.mk A10
  clear A10
  replace H := Option.bind_eq_some_iff.mp H
  obtain ⟨⟨t112, t113⟩, A20, H⟩ := H
  replace H : ((line_Zone.f 39).bind fun bt114 => ((line_Zone.f 40).bind fun bt116 => ((line_Between.f 30 10 30).bind fun bt118 => ((line_Between.f 10 30 31).bind fun bt120 => ((line_Zones.f 16 25).bind fun bt122 => ((line_Stations.f 5 6).bind fun bt125 => ((line_Stations.f 3 2).bind fun bt129 => (if t111 = 0 then (if t110 = 1 then (if t113 = t111 then (if t112 = 6 then (if bt114.2 = t111 then (if bt114.1 = 5 then (if bt116.2 = 1 then (if bt118.2 = t111 then (if bt118.1 = true then (if bt120.2 = t111 then (if bt120.1 = true then (none) else (if bt122.2.2 = t111 then (if bt122.1 = 1 then (if bt122.2.1 = 2 then (if bt125.2 = t111 then ((gatelineref07_Same.f k bt125.1 (([0, 1, 2, 3, 4, 36, 37, 38, 39] : List Int))).bind fun t136 => (if t136 = true then (if bt129.2 = bt116.2 then ((line_Is.f 39).bind fun t137 => (if t137 = true then ((line_Is.f 40).bind fun t138 => (some (!t138))) else (none))) else (none)) else (none))) else (none)) else (none)) else (none)) else (none))) else (none)) else (none)) else (none)) else (none)) else (none)) else (none)) else (none)) else (none)) else (none)) else (none))))))))) = some r := H
  have A2 := Aside0.mk A20
  clear A20
  replace H := Option.bind_eq_some_iff.mp H
  obtain ⟨⟨t114, t115⟩, A30, H⟩ := H
  replace H : ((line_Zone.f 40).bind fun bt116 => ((line_Between.f 30 10 30).bind fun bt118 => ((line_Between.f 10 30 31).bind fun bt120 => ((line_Zones.f 16 25).bind fun bt122 => ((line_Stations.f 5 6).bind fun bt125 => ((line_Stations.f 3 2).bind fun bt129 => (if t111 = 0 then (if t110 = 1 then (if t113 = t111 then (if t112 = 6 then (if t115 = t111 then (if t114 = 5 then (if bt116.2 = 1 then (if bt118.2 = t111 then (if bt118.1 = true then (if bt120.2 = t111 then (if bt120.1 = true then (none) else (if bt122.2.2 = t111 then (if bt122.1 = 1 then (if bt122.2.1 = 2 then (if bt125.2 = t111 then ((gatelineref07_Same.f k bt125.1 (([0, 1, 2, 3, 4, 36, 37, 38, 39] : List Int))).bind fun t136 => (if t136 = true then (if bt129.2 = bt116.2 then ((line_Is.f 39).bind fun t137 => (if t137 = true then ((line_Is.f 40).bind fun t138 => (some (!t138))) else (none))) else (none)) else (none))) else (none)) else (none)) else (none)) else (none))) else (none)) else (none)) else (none)) else (none)) else (none)) else (none)) else (none)) else (none)) else (none)) else (none)))))))) = some r := H
  have A3 := Aside0.mk A30
  clear A30
  replace H := Option.bind_eq_some_iff.mp H
  obtain ⟨⟨t116, t117⟩, A40, H⟩ := H
  replace H : ((line_Between.f 30 10 30).bind fun bt118 => ((line_Between.f 10 30 31).bind fun bt120 => ((line_Zones.f 16 25).bind fun bt122 => ((line_Stations.f 5 6).bind fun bt125 => ((line_Stations.f 3 2).bind fun bt129 => (if t111 = 0 then (if t110 = 1 then (if t113 = t111 then (if t112 = 6 then (if t115 = t111 then (if t114 = 5 then (if t117 = 1 then (if bt118.2 = t111 then (if bt118.1 = true then (if bt120.2 = t111 then (if bt120.1 = true then (none) else (if bt122.2.2 = t111 then (if bt122.1 = 1 then (if bt122.2.1 = 2 then (if bt125.2 = t111 then ((gatelineref07_Same.f k bt125.1 (([0, 1, 2, 3, 4, 36, 37, 38, 39] : List Int))).bind fun t136 => (if t136 = true then (if bt129.2 = t117 then ((line_Is.f 39).bind fun t137 => (if t137 = true then ((line_Is.f 40).bind fun t138 => (some (!t138))) else (none))) else (none)) else (none))) else (none)) else (none)) else (none)) else (none))) else (none)) else (none)) else (none)) else (none)) else (none)) else (none)) else (none)) else (none)) else (none)) else (none))))))) = some r := H
  have A4 := Aside0.mk A40
  clear A40
  replace H := Option.bind_eq_some_iff.mp H
  obtain ⟨⟨t118, t119⟩, A50, H⟩ := H
  replace H : ((line_Between.f 10 30 31).bind fun bt120 => ((line_Zones.f 16 25).bind fun bt122 => ((line_Stations.f 5 6).bind fun bt125 => ((line_Stations.f 3 2).bind fun bt129 => (if t111 = 0 then (if t110 = 1 then (if t113 = t111 then (if t112 = 6 then (if t115 = t111 then (if t114 = 5 then (if t117 = 1 then (if t119 = t111 then (if t118 = true then (if bt120.2 = t111 then (if bt120.1 = true then (none) else (if bt122.2.2 = t111 then (if bt122.1 = 1 then (if bt122.2.1 = 2 then (if bt125.2 = t111 then ((gatelineref07_Same.f k bt125.1 (([0, 1, 2, 3, 4, 36, 37, 38, 39] : List Int))).bind fun t136 => (if t136 = true then (if bt129.2 = t117 then ((line_Is.f 39).bind fun t137 => (if t137 = true then ((line_Is.f 40).bind fun t138 => (some (!t138))) else (none))) else (none)) else (none))) else (none)) else (none)) else (none)) else (none))) else (none)) else (none)) else (none)) else (none)) else (none)) else (none)) else (none)) else (none)) else (none)) else (none)))))) = some r := H
  have A5 := Aside0.mk A50
  clear A50
  replace H := Option.bind_eq_some_iff.mp H
  obtain ⟨⟨t120, t121⟩, A60, H⟩ := H
  replace H : ((line_Zones.f 16 25).bind fun bt122 => ((line_Stations.f 5 6).bind fun bt125 => ((line_Stations.f 3 2).bind fun bt129 => (if t111 = 0 then (if t110 = 1 then (if t113 = t111 then (if t112 = 6 then (if t115 = t111 then (if t114 = 5 then (if t117 = 1 then (if t119 = t111 then (if t118 = true then (if t121 = t111 then (if t120 = true then (none) else (if bt122.2.2 = t111 then (if bt122.1 = 1 then (if bt122.2.1 = 2 then (if bt125.2 = t111 then ((gatelineref07_Same.f k bt125.1 (([0, 1, 2, 3, 4, 36, 37, 38, 39] : List Int))).bind fun t136 => (if t136 = true then (if bt129.2 = t117 then ((line_Is.f 39).bind fun t137 => (if t137 = true then ((line_Is.f 40).bind fun t138 => (some (!t138))) else (none))) else (none)) else (none))) else (none)) else (none)) else (none)) else (none))) else (none)) else (none)) else (none)) else (none)) else (none)) else (none)) else (none)) else (none)) else (none)) else (none))))) = some r := H
  have A6 := Aside0.mk A60
  clear A60
  replace H := Option.bind_eq_some_iff.mp H
  obtain ⟨⟨t122, t123, t124⟩, A70, H⟩ := H
  replace H : ((line_Stations.f 5 6).bind fun bt125 => ((line_Stations.f 3 2).bind fun bt129 => (if t111 = 0 then (if t110 = 1 then (if t113 = t111 then (if t112 = 6 then (if t115 = t111 then (if t114 = 5 then (if t117 = 1 then (if t119 = t111 then (if t118 = true then (if t121 = t111 then (if t120 = true then (none) else (if t124 = t111 then (if t122 = 1 then (if t123 = 2 then (if bt125.2 = t111 then ((gatelineref07_Same.f k bt125.1 (([0, 1, 2, 3, 4, 36, 37, 38, 39] : List Int))).bind fun t136 => (if t136 = true then (if bt129.2 = t117 then ((line_Is.f 39).bind fun t137 => (if t137 = true then ((line_Is.f 40).bind fun t138 => (some (!t138))) else (none))) else (none)) else (none))) else (none)) else (none)) else (none)) else (none))) else (none)) else (none)) else (none)) else (none)) else (none)) else (none)) else (none)) else (none)) else (none)) else (none)))) = some r := H
  have A7 := Aside0.mk A70
  clear A70
  replace H := Option.bind_eq_some_iff.mp H
  obtain ⟨⟨t125, t126⟩, A80, H⟩ := H
  replace H : ((line_Stations.f 3 2).bind fun bt129 => (if t111 = 0 then (if t110 = 1 then (if t113 = t111 then (if t112 = 6 then (if t115 = t111 then (if t114 = 5 then (if t117 = 1 then (if t119 = t111 then (if t118 = true then (if t121 = t111 then (if t120 = true then (none) else (if t124 = t111 then (if t122 = 1 then (if t123 = 2 then (if t126 = t111 then ((gatelineref07_Same.f k t125 (([0, 1, 2, 3, 4, 36, 37, 38, 39] : List Int))).bind fun t136 => (if t136 = true then (if bt129.2 = t117 then ((line_Is.f 39).bind fun t137 => (if t137 = true then ((line_Is.f 40).bind fun t138 => (some (!t138))) else (none))) else (none)) else (none))) else (none)) else (none)) else (none)) else (none))) else (none)) else (none)) else (none)) else (none)) else (none)) else (none)) else (none)) else (none)) else (none)) else (none))) = some r := H
  have A8 := Aside0.mk A80
  clear A80
  replace H := Option.bind_eq_some_iff.mp H
  obtain ⟨⟨t129, t130⟩, A90, H⟩ := H
  replace H : (if t111 = 0 then (if t110 = 1 then (if t113 = t111 then (if t112 = 6 then (if t115 = t111 then (if t114 = 5 then (if t117 = 1 then (if t119 = t111 then (if t118 = true then (if t121 = t111 then (if t120 = true then (none) else (if t124 = t111 then (if t122 = 1 then (if t123 = 2 then (if t126 = t111 then ((gatelineref07_Same.f k t125 (([0, 1, 2, 3, 4, 36, 37, 38, 39] : List Int))).bind fun t136 => (if t136 = true then (if t130 = t117 then ((line_Is.f 39).bind fun t137 => (if t137 = true then ((line_Is.f 40).bind fun t138 => (some (!t138))) else (none))) else (none)) else (none))) else (none)) else (none)) else (none)) else (none))) else (none)) else (none)) else (none)) else (none)) else (none)) else (none)) else (none)) else (none)) else (none)) else (none)) = some r := H
  have A9 := Aside0.mk A90
  clear A90
  by_cases c10 : t111 = 0
  · rw [if_pos c10] at H
    have c10b0 : (t111 == 0) = true := beq_iff_eq.mpr c10
    have c10b1 : (t111 != 0) = false := bne_eq_false_iff_eq.mpr c10
    clear c10
    by_cases c11 : t110 = 1
    · rw [if_pos c11] at H
      have c11b0 : (t110 == 1) = true := beq_iff_eq.mpr c11
      have c11b1 : (t110 != 1) = false := bne_eq_false_iff_eq.mpr c11
      clear c11
      by_cases c12 : t113 = t111
      · rw [if_pos c12] at H
        have c12b0 : (t113 == t111) = true := beq_iff_eq.mpr c12
        have c12b1 : (t113 != t111) = false := bne_eq_false_iff_eq.mpr c12
        clear c12
        by_cases c13 : t112 = 6
        · rw [if_pos c13] at H
          have c13b0 : (t112 == 6) = true := beq_iff_eq.mpr c13
          have c13b1 : (t112 != 6) = false := bne_eq_false_iff_eq.mpr c13
          clear c13
          by_cases c14 : t115 = t111
          · rw [if_pos c14] at H
            have c14b0 : (t115 == t111) = true := beq_iff_eq.mpr c14
            have c14b1 : (t115 != t111) = false := bne_eq_false_iff_eq.mpr c14
            clear c14
            by_cases c15 : t114 = 5
            · rw [if_pos c15] at H
              have c15b0 : (t114 == 5) = true := beq_iff_eq.mpr c15
              have c15b1 : (t114 != 5) = false := bne_eq_false_iff_eq.mpr c15
              clear c15
              by_cases c16 : t117 = 1
              · rw [if_pos c16] at H
                have c16b0 : (t117 == 1) = true := beq_iff_eq.mpr c16
                have c16b1 : (t117 != 1) = false := bne_eq_false_iff_eq.mpr c16
                clear c16
                by_cases c17 : t119 = t111
                · rw [if_pos c17] at H
                  have c17b0 : (t119 == t111) = true := beq_iff_eq.mpr c17
                  have c17b1 : (t119 != t111) = false := bne_eq_false_iff_eq.mpr c17
                  clear c17
                  by_cases c18 : t118 = true
                  · subst c18
                    have H1 : (if t121 = t111 then (if t120 = true then (none) else (if t124 = t111 then (if t122 = 1 then (if t123 = 2 then (if t126 = t111 then ((gatelineref07_Same.f k t125 (([0, 1, 2, 3, 4, 36, 37, 38, 39] : List Int))).bind fun t136 => (if t136 = true then (if t130 = t117 then ((line_Is.f 39).bind fun t137 => (if t137 = true then ((line_Is.f 40).bind fun t138 => (some (!t138))) else (none))) else (none)) else (none))) else (none)) else (none)) else (none)) else (none))) else (none)) = some r := by rw [if_pos rfl] at H; exact H
                    clear H
                    have H := H1
                    clear H1
                    by_cases c19 : t121 = t111
                    · rw [if_pos c19] at H
                      have c19b0 : (t121 == t111) = true := beq_iff_eq.mpr c19
                      have c19b1 : (t121 != t111) = false := bne_eq_false_iff_eq.mpr c19
                      clear c19
                      by_cases c20 : t120 = true
                      · subst c20
                        have H1 : (none) = some r := by rw [if_pos rfl] at H; exact H
                        clear H
                        have H := H1
                        clear H1
                        exact absurd H (by simp)
                      · replace c20 := Bool.eq_false_iff.mpr c20
                        subst c20
                        have H1 : (if t124 = t111 then (if t122 = 1 then (if t123 = 2 then (if t126 = t111 then ((gatelineref07_Same.f k t125 (([0, 1, 2, 3, 4, 36, 37, 38, 39] : List Int))).bind fun t136 => (if t136 = true then (if t130 = t117 then ((line_Is.f 39).bind fun t137 => (if t137 = true then ((line_Is.f 40).bind fun t138 => (some (!t138))) else (none))) else (none)) else (none))) else (none)) else (none)) else (none)) else (none)) = some r := by rw [if_neg (show ¬ (false = true) by decide)] at H; exact H
                        clear H
                        have H := H1
                        clear H1
                        by_cases c21 : t124 = t111
                        · rw [if_pos c21] at H
                          have c21b0 : (t124 == t111) = true := beq_iff_eq.mpr c21
                          have c21b1 : (t124 != t111) = false := bne_eq_false_iff_eq.mpr c21
                          clear c21
                          by_cases c22 : t122 = 1
                          · rw [if_pos c22] at H
                            have c22b0 : (t122 == 1) = true := beq_iff_eq.mpr c22
                            have c22b1 : (t122 != 1) = false := bne_eq_false_iff_eq.mpr c22
                            clear c22
                            by_cases c23 : t123 = 2
                            · rw [if_pos c23] at H
                              have c23b0 : (t123 == 2) = true := beq_iff_eq.mpr c23
                              have c23b1 : (t123 != 2) = false := bne_eq_false_iff_eq.mpr c23
                              clear c23
                              by_cases c24 : t126 = t111
                              · rw [if_pos c24] at H
                                have c24b0 : (t126 == t111) = true := beq_iff_eq.mpr c24
                                have c24b1 : (t126 != t111) = false := bne_eq_false_iff_eq.mpr c24
                                clear c24
                                obtain ⟨y133, hy133⟩ : ∃ y_ : List Int, y_ = (([0, 1, 2, 3, 4, 36, 37, 38, 39] : List Int)) := ⟨_, rfl⟩
                                replace H : ((gatelineref07_Same.f k t125 y133).bind fun t136 => (if t136 = true then (if t130 = t117 then ((line_Is.f 39).bind fun t137 => (if t137 = true then ((line_Is.f 40).bind fun t138 => (some (!t138))) else (none))) else (none)) else (none))) = some r := by first | (rw [hy133]; with_reducible exact H) | (have H2_ := (Option.bind_some _ _).symm.trans H; rw [hy133]; with_reducible exact H2_) | (have H2_ := (Option.bind_some _ _).symm.trans H; with_reducible exact H2_) | with_reducible exact H | (rw [hy133]; exact H) | exact H
                                have Ny133 := Aside0.mk hy133
                                clear hy133
                                replace H := Option.bind_eq_some_iff.mp H
                                obtain ⟨t136, A250, H⟩ := H
                                replace H : (if t136 = true then (if t130 = t117 then ((line_Is.f 39).bind fun t137 => (if t137 = true then ((line_Is.f 40).bind fun t138 => (some (!t138))) else (none))) else (none)) else (none)) = some r := H
                                have A25 := Aside0.mk A250
                                clear A250
                                by_cases c26 : t136 = true
                                · subst c26
                                  have H1 : (if t130 = t117 then ((line_Is.f 39).bind fun t137 => (if t137 = true then ((line_Is.f 40).bind fun t138 => (some (!t138))) else (none))) else (none)) = some r := by rw [if_pos rfl] at H; exact H
                                  clear H
                                  have H := H1
                                  clear H1
                                  by_cases c27 : t130 = t117
                                  · rw [if_pos c27] at H
                                    have c27b0 : (t130 == t117) = true := beq_iff_eq.mpr c27
                                    have c27b1 : (t130 != t117) = false := bne_eq_false_iff_eq.mpr c27
                                    clear c27
                                    replace H := Option.bind_eq_some_iff.mp H
                                    obtain ⟨t137, A280, H⟩ := H
                                    replace H : (if t137 = true then ((line_Is.f 40).bind fun t138 => (some (!t138))) else (none)) = some r := H
                                    have A28 := Aside0.mk A280
                                    clear A280
                                    by_cases c29 : t137 = true
                                    · subst c29
                                      have H1 : ((line_Is.f 40).bind fun t138 => (some (!t138))) = some r := by rw [if_pos rfl] at H; exact H
                                      clear H
                                      have H := H1
                                      clear H1
                                      replace H := Option.bind_eq_some_iff.mp H
                                      obtain ⟨t138, A300, H⟩ := H
                                      replace H : (some (!t138)) = some r := H
                                      have A30 := Aside0.mk A300
                                      clear A300
                                      obtain rfl := Option.some.inj H
                                      go_enter Try.func18, Try.ntmps18
                                      go_wp2_with (first | ((with_reducible refine gate_callee (f := 14) rfl ?_); refine goesL_ (some 21) rfl rfl Try.func14 (by kernel_rfl) rfl #[.int .i64 20] rfl (by (try simp only [List.map_toArray, List.map_cons, List.map_nil]); first | done | rfl | (simp only [List.length_drop, List.length_take]; rfl)) ?_; (with_reducible refine (line_Zone.calls 20 t110 t111 _ A1.out).mono ?_); rintro e w31 ⟨rfl, hb⟩; refine ⟨_, rfl, ?_⟩; have n0_ := Aside0.mk (below_step (by repeat (first | (with_reducible first | exact HB.out | apply below_alloc | apply pw_below_drewN | apply below_drew1) | exact HB.out)) hb); clear HB; have HB := n0_; clear n0_; (try clear hb); (try clear hb2); (try clear hk); (try clear hi); (try clear A1)) | ((with_reducible refine gate_callee (f := 14) rfl ?_); refine goesL_ (some 25) rfl rfl Try.func14 (by kernel_rfl) rfl #[.int .i64 0] rfl (by (try simp only [List.map_toArray, List.map_cons, List.map_nil]); first | done | rfl | (simp only [List.length_drop, List.length_take]; rfl)) ?_; (with_reducible refine (line_Zone.calls 0 t112 t113 _ A2.out).mono ?_); rintro e w32 ⟨rfl, hb⟩; refine ⟨_, rfl, ?_⟩; have n0_ := Aside0.mk (below_step (by repeat (first | (with_reducible first | exact HB.out | apply below_alloc | apply pw_below_drewN | apply below_drew1) | exact HB.out)) hb); clear HB; have HB := n0_; clear n0_; (try clear hb); (try clear hb2); (try clear hk); (try clear hi); (try clear A2)) | ((with_reducible refine gate_callee (f := 14) rfl ?_); refine goesL_ (some 29) rfl rfl Try.func14 (by kernel_rfl) rfl #[.int .i64 39] rfl (by (try simp only [List.map_toArray, List.map_cons, List.map_nil]); first | done | rfl | (simp only [List.length_drop, List.length_take]; rfl)) ?_; (with_reducible refine (line_Zone.calls 39 t114 t115 _ A3.out).mono ?_); rintro e w33 ⟨rfl, hb⟩; refine ⟨_, rfl, ?_⟩; have n0_ := Aside0.mk (below_step (by repeat (first | (with_reducible first | exact HB.out | apply below_alloc | apply pw_below_drewN | apply below_drew1) | exact HB.out)) hb); clear HB; have HB := n0_; clear n0_; (try clear hb); (try clear hb2); (try clear hk); (try clear hi); (try clear A3)) | ((with_reducible refine gate_callee (f := 14) rfl ?_); refine goesL_ (some 33) rfl rfl Try.func14 (by kernel_rfl) rfl #[.int .i64 40] rfl (by (try simp only [List.map_toArray, List.map_cons, List.map_nil]); first | done | rfl | (simp only [List.length_drop, List.length_take]; rfl)) ?_; (with_reducible refine (line_Zone.calls 40 t116 t117 _ A4.out).mono ?_); rintro e w34 ⟨rfl, hb⟩; refine ⟨_, rfl, ?_⟩; have n0_ := Aside0.mk (below_step (by repeat (first | (with_reducible first | exact HB.out | apply below_alloc | apply pw_below_drewN | apply below_drew1) | exact HB.out)) hb); clear HB; have HB := n0_; clear n0_; (try clear hb); (try clear hb2); (try clear hk); (try clear hi); (try clear A4)) | ((with_reducible refine gate_callee (f := 16) rfl ?_); refine goesL_ (some 37) rfl rfl Try.func16 (by kernel_rfl) rfl #[.int .i64 30, .int .i64 10, .int .i64 30] rfl (by (try simp only [List.map_toArray, List.map_cons, List.map_nil]); first | done | rfl | (simp only [List.length_drop, List.length_take]; rfl)) ?_; (with_reducible refine (line_Between.calls 30 10 30 true t119 _ A5.out).mono ?_); rintro e w35 ⟨rfl, hb⟩; refine ⟨_, rfl, ?_⟩; have n0_ := Aside0.mk (below_step (by repeat (first | (with_reducible first | exact HB.out | apply below_alloc | apply pw_below_drewN | apply below_drew1) | exact HB.out)) hb); clear HB; have HB := n0_; clear n0_; (try clear hb); (try clear hb2); (try clear hk); (try clear hi); (try clear A5)) | ((with_reducible refine gate_callee (f := 16) rfl ?_); refine goesL_ (some 41) rfl rfl Try.func16 (by kernel_rfl) rfl #[.int .i64 10, .int .i64 30, .int .i64 31] rfl (by (try simp only [List.map_toArray, List.map_cons, List.map_nil]); first | done | rfl | (simp only [List.length_drop, List.length_take]; rfl)) ?_; (with_reducible refine (line_Between.calls 10 30 31 false t121 _ A6.out).mono ?_); rintro e w36 ⟨rfl, hb⟩; refine ⟨_, rfl, ?_⟩; have n0_ := Aside0.mk (below_step (by repeat (first | (with_reducible first | exact HB.out | apply below_alloc | apply pw_below_drewN | apply below_drew1) | exact HB.out)) hb); clear HB; have HB := n0_; clear n0_; (try clear hb); (try clear hb2); (try clear hk); (try clear hi); (try clear A6)) | ((with_reducible refine gate_callee (f := 21) rfl ?_); refine goesL_ (some 45) rfl rfl Try.func21 (by kernel_rfl) rfl #[.int .i64 16, .int .i64 25] rfl (by (try simp only [List.map_toArray, List.map_cons, List.map_nil]); first | done | rfl | (simp only [List.length_drop, List.length_take]; rfl)) ?_; (with_reducible refine (line_Zones.calls 16 25 t122 t123 t124 _ A7.out).mono ?_); rintro e w37 ⟨rfl, hb⟩; refine ⟨_, rfl, ?_⟩; have n0_ := Aside0.mk (below_step (by repeat (first | (with_reducible first | exact HB.out | apply below_alloc | apply pw_below_drewN | apply below_drew1) | exact HB.out)) hb); clear HB; have HB := n0_; clear n0_; (try clear hb); (try clear hb2); (try clear hk); (try clear hi); (try clear A7)) | ((with_reducible refine gate_callee (f := 23) rfl ?_); refine goesL_ (some 50) rfl rfl Try.func23 (by kernel_rfl) rfl #[.int .i64 5, .int .i64 6] rfl (by (try simp only [List.map_toArray, List.map_cons, List.map_nil]); first | done | rfl | (simp only [List.length_drop, List.length_take]; rfl)) ?_; (with_reducible refine (line_Stations.calls 5 6 t125 t126 _ A8.out).mono ?_); rintro e w38 ⟨v127, rfl, ho0, hb⟩; refine ⟨_, rfl, ?_⟩; have n0_ := Aside0.mk (Kd.R_lower ho0 (below_size (by repeat (first | (with_reducible first | exact HB.out | apply below_alloc | apply pw_below_drewN | apply below_drew1) | exact HB.out)))); have n1_ := Aside0.mk (below_step (by repeat (first | (with_reducible first | exact HB.out | apply below_alloc | apply pw_below_drewN | apply below_drew1) | exact HB.out)) hb); clear HB; have HO128 := n0_; have HB := n1_; clear n0_ n1_; (try clear hb); (try clear hb2); (try clear hk); (try clear hi); (try clear ho0); (try clear A8)) | ((with_reducible refine gate_callee (f := 23) rfl ?_); refine goesL_ (some 54) rfl rfl Try.func23 (by kernel_rfl) rfl #[.int .i64 3, .int .i64 2] rfl (by (try simp only [List.map_toArray, List.map_cons, List.map_nil]); first | done | rfl | (simp only [List.length_drop, List.length_take]; rfl)) ?_; (with_reducible refine (line_Stations.calls 3 2 t129 t130 _ A9.out).mono ?_); rintro e w39 ⟨v131, rfl, ho0, hb⟩; refine ⟨_, rfl, ?_⟩; have n0_ := Aside0.mk (Kd.R_elder' (by (with_reducible repeat (first | apply Kd.R_alloc | apply Kd.R_drewN | apply Kd.R_drew)); exact HO128.out) (Kd.R_base ho0) hb); have n1_ := Aside0.mk (Kd.R_lower (Kd.R_new' ho0 (Kd.R_lt (by (with_reducible repeat (first | apply Kd.R_alloc | apply Kd.R_drewN | apply Kd.R_drew)); exact HO128.out))) (below_size (by repeat (first | (with_reducible first | exact HB.out | apply below_alloc | apply pw_below_drewN | apply below_drew1) | exact HB.out)))); have n2_ := Aside0.mk (below_step (by repeat (first | (with_reducible first | exact HB.out | apply below_alloc | apply pw_below_drewN | apply below_drew1) | exact HB.out)) hb); clear HO128; clear HB; have HO128 := n0_; have HO132 := n1_; have HB := n2_; clear n0_ n1_ n2_; (try clear hb); (try clear hb2); (try clear hk); (try clear hi); (try clear ho0); (try clear A9)) | ((with_reducible refine gate_dst (N := 122) rfl ?_); (try (refine gate_guard (by rfl) ?_; dsimp only)); refine Kd.R_lit (Kd.int .i64) _ 3 ?hg (N := 122) ?hd (xs := ([0, 1, 2, 3, 4, 36, 37, 38, 39] : List Int)) (inner := [.int .i64 0, .int .i64 1, .int .i64 2, .int .i64 3, .int .i64 4, .int .i64 36, .int .i64 37, .int .i64 38, .int .i64 39]) (ok := fun _ => True) (okp := fun _ => True) ?hr ?hp (fun _ hk => hk) trivial (Below.refl _ _) (Nat.le_refl _) (by simp) ?_; (case hd => rfl); (case hg => rfl); (case hr => first | (go_simp; done) | (go_simp; rfl) | (go_simp; simp [gm_u8, gm_u32, gm_tmod]; done)); (case hp => exact (Reps.one (show Kd.M (Kd.int .i64) _ _ _ 0 [.int .i64 0] from rfl) (Reps.one (show Kd.M (Kd.int .i64) _ _ _ 1 [.int .i64 1] from rfl) (Reps.one (show Kd.M (Kd.int .i64) _ _ _ 2 [.int .i64 2] from rfl) (Reps.one (show Kd.M (Kd.int .i64) _ _ _ 3 [.int .i64 3] from rfl) (Reps.one (show Kd.M (Kd.int .i64) _ _ _ 4 [.int .i64 4] from rfl) (Reps.one (show Kd.M (Kd.int .i64) _ _ _ 36 [.int .i64 36] from rfl) (Reps.one (show Kd.M (Kd.int .i64) _ _ _ 37 [.int .i64 37] from rfl) (Reps.one (show Kd.M (Kd.int .i64) _ _ _ 38 [.int .i64 38] from rfl) (Reps.one (show Kd.M (Kd.int .i64) _ _ _ 39 [.int .i64 39] from rfl) (Reps.none _ _))))))))))); intro v134 w40 ho41 hb hg_ hnew_; clear hg_ hnew_; (first | rw [← Ny133.out] at ho41 | (simp only [Int.reduceToNat] at ho41; rw [← Ny133.out] at ho41)); have n0_ := Aside0.mk (Kd.R_elder' (by (with_reducible repeat (first | apply Kd.R_alloc | apply Kd.R_drewN | apply Kd.R_drew)); exact HO128.out) (Kd.R_base ho41) hb); have n1_ := Aside0.mk (Kd.R_elder' (by (with_reducible repeat (first | apply Kd.R_alloc | apply Kd.R_drewN | apply Kd.R_drew)); exact HO132.out) (Kd.R_base ho41) hb); have n2_ := Aside0.mk (Kd.R_lower (Kd.R_new' (Kd.R_new' ho41 (Kd.R_lt (by (with_reducible repeat (first | apply Kd.R_alloc | apply Kd.R_drewN | apply Kd.R_drew)); exact HO128.out))) (Kd.R_lt (by (with_reducible repeat (first | apply Kd.R_alloc | apply Kd.R_drewN | apply Kd.R_drew)); exact HO132.out))) (below_size (by repeat (first | (with_reducible first | exact HB.out | apply below_alloc | apply pw_below_drewN | apply below_drew1) | exact HB.out)))); have n3_ := Aside0.mk (below_step (by repeat (first | (with_reducible first | exact HB.out | apply below_alloc | apply pw_below_drewN | apply below_drew1) | exact HB.out)) hb); clear HO128; clear HO132; clear HB; have HO128 := n0_; have HO132 := n1_; have HO135 := n2_; have HB := n3_; clear n0_ n1_ n2_ n3_; clear hb ho41; obtain ⟨Ao42, co42, eo42⟩ := Kd.R_slice HO128.out; subst eo42; obtain ⟨Ao43, co43, eo43⟩ := Kd.R_slice HO135.out; subst eo43) | (go_at_call 25; (with_reducible refine (gatelineref07_Same.calls k _ _ t125 _ _ y133 true _ ?side1 ?side2 ?side3 ?side4 A25.out).mono ?_); (case side1 => repeat (first | exact (Kd.R_reads' HO128.out).2.2 | (with_reducible refine Kd.C_alloc ?_ _) | (with_reducible refine Kd.C_drewN ?_ _) | (with_reducible refine Kd.C_drew ?_))); (case side2 => exact (Kd.R_reads' HO128.out).2.1); (case side3 => repeat (first | exact (Kd.R_reads' HO135.out).2.2 | (with_reducible refine Kd.C_alloc ?_ _) | (with_reducible refine Kd.C_drewN ?_ _) | (with_reducible refine Kd.C_drew ?_))); (case side4 => exact (Kd.R_reads' HO135.out).2.1); rintro e w' ⟨rfl, ⟨nd, rfl⟩⟩; (try clear A25)) | (go_at_call 19; (with_reducible refine (line_Is.calls 39 true _ A28.out).mono ?_); rintro e w' ⟨rfl, ⟨nd, rfl⟩⟩; (try clear A28)) | (go_at_call 19; (with_reducible refine (line_Is.calls 40 t138 _ A30.out).mono ?_); rintro e w' ⟨rfl, ⟨nd, rfl⟩⟩; (try clear A30)))
                                      go_ret
                                      exact ⟨by first | rfl | (simp [errW_none, errW_some] <;> rfl) | (simp [*, errW_none, errW_some] <;> rfl), by repeat (first | (with_reducible first | exact HB.out | apply below_alloc | apply pw_below_drewN | apply below_drew1) | exact HB.out)⟩
                                    · replace c29 := Bool.eq_false_iff.mpr c29
                                      subst c29
                                      have H1 : (none) = some r := by rw [if_neg (show ¬ (false = true) by decide)] at H; exact H
                                      clear H
                                      have H := H1
                                      clear H1
                                      exact absurd H (by simp)
                                  · rw [if_neg c27] at H
                                    exact absurd H (by simp)
                                · replace c26 := Bool.eq_false_iff.mpr c26
                                  subst c26
                                  have H1 : (none) = some r := by rw [if_neg (show ¬ (false = true) by decide)] at H; exact H
                                  clear H
                                  have H := H1
                                  clear H1
                                  exact absurd H (by simp)
                              · rw [if_neg c24] at H
                                exact absurd H (by simp)
                            · rw [if_neg c23] at H
                              exact absurd H (by simp)
                          · rw [if_neg c22] at H
                            exact absurd H (by simp)
                        · rw [if_neg c21] at H
                          exact absurd H (by simp)
                    · rw [if_neg c19] at H
                      exact absurd H (by simp)
                  · replace c18 := Bool.eq_false_iff.mpr c18
                    subst c18
                    have H1 : (none) = some r := by rw [if_neg (show ¬ (false = true) by decide)] at H; exact H
                    clear H
                    have H := H1
                    clear H1
                    exact absurd H (by simp)
                · rw [if_neg c17] at H
                  exact absurd H (by simp)
              · rw [if_neg c16] at H
                exact absurd H (by simp)
            · rw [if_neg c15] at H
              exact absurd H (by simp)
          · rw [if_neg c14] at H
            exact absurd H (by simp)
        · rw [if_neg c13] at H
          exact absurd H (by simp)
      · rw [if_neg c12] at H
        exact absurd H (by simp)
    · rw [if_neg c11] at H
      exact absurd H (by simp)
  · rw [if_neg c10] at H
    exact absurd H (by simp)

end Go.Proofs.Ytikaonejpbaikaa.PL
