-- Written by the kit's print program with contracts that this session proved by hand given to it. Not trusted: Lean checks it.
import Derived.Test.YtikaonejpbaikaaPLx0
import Derived.Test.YtikaonejpbaikaaPLx1
import Derived.Test.YtikaonejpbaikaaPLx5
namespace Go.Proofs.Ytikaonejpbaikaa.PL
open Go.RowKit Go.Proofs.YtikaonejpbaikaaW.PrintWords Go.Proofs.YtikaonejpbaikaaW.PrintLast Go.Proofs.YtikaonejpbaikaaW.PrintMore
attribute [local go_sem] max2_int min2_int max_two min_two max_three min_three max_four min_four   -- for this text's walks alone
set_option linter.unusedVariables false
set_option linter.unusedSimpArgs false

/-! ### gatelinelaw08_FareFar: function 13 -/
def gatelinelaw08_FareFar.j0 : Nat → Int → Int → Bool → Option (Bool)
  | 0, _, _, _ => none
  | k + 1, x13, x15, x72 => if x72 = true then ((gatelinelaw08_priced.f k).bind fun t299 => (some t299)) else ((gatelinelaw08_priced.f k).bind fun t300 => (if t300 = true then (some (decide (x15 ≤ x13))) else (some false)))
def gatelinelaw08_FareFar.f (k : Nat) (a0 : Int) (a1 : Int) (a2 : Int) (a3 : Int) (a4 : Int) (a5 : Int) : Option (Bool) := (fare_Single.f k a0 a1 a4 a5).bind fun bt291 => ((fare_Single.f k a2 a3 a4 a5).bind fun bt293 => ((line_Between.f a0 a1 a2).bind fun bt295 => ((line_Between.f a0 a1 a3).bind fun bt297 => (if bt291.2 = 0 then (if bt293.2 = 0 then (if bt295.2 = 0 then (if bt297.2 = 0 then (if bt295.1 = true then (gatelinelaw08_FareFar.j0 k bt291.1 bt293.1 (!bt297.1)) else (gatelinelaw08_FareFar.j0 k bt291.1 bt293.1 true)) else (gatelinelaw08_FareFar.j0 k bt291.1 bt293.1 true)) else (gatelinelaw08_FareFar.j0 k bt291.1 bt293.1 true)) else (gatelinelaw08_FareFar.j0 k bt291.1 bt293.1 true)) else (gatelinelaw08_FareFar.j0 k bt291.1 bt293.1 true)))))
theorem gatelinelaw08_FareFar.mono_l : ∀ k, (∀ y0 y1 y2, LeO (gatelinelaw08_FareFar.j0 k y0 y1 y2) (gatelinelaw08_FareFar.j0 (k + 1) y0 y1 y2))
  | 0 => fun _ _ _ r h => by simp [gatelinelaw08_FareFar.j0] at h
  | k + 1 => by
    have ih0 := gatelinelaw08_FareFar.mono_l k
    · intro y0 y1 y2
      unfold gatelinelaw08_FareFar.j0
      repeat' first
      | (with_reducible exact ih0 _ _ _)
      | (with_reducible exact fare_Single.mono _ _ _ _ _)
      | (with_reducible exact gatelinelaw08_priced.mono _)
      | (with_reducible exact LeO.refl _)
      | (with_reducible exact LeO.none _)
      | (with_reducible refine LeO.ite ?_ ?_)
      | (with_reducible refine LeO.bind ?_ (fun _ => ?_))
      | exact ih0 _ _ _
      | exact fare_Single.mono _ _ _ _ _
      | exact gatelinelaw08_priced.mono _
      | exact LeO.none _
      | refine LeO.ite ?_ ?_
      | refine LeO.bind ?_ (fun _ => ?_)
theorem gatelinelaw08_FareFar.mono : ∀ a0 a1 a2 a3 a4 a5 k, LeO (gatelinelaw08_FareFar.f k a0 a1 a2 a3 a4 a5) (gatelinelaw08_FareFar.f (k + 1) a0 a1 a2 a3 a4 a5) := by
  intro a0 a1 a2 a3 a4 a5 k
  have ih0 := gatelinelaw08_FareFar.mono_l k
  unfold gatelinelaw08_FareFar.f
  repeat' first
      | (with_reducible exact ih0 _ _ _)
      | (with_reducible exact fare_Single.mono _ _ _ _ _)
      | (with_reducible exact gatelinelaw08_priced.mono _)
      | (with_reducible exact LeO.refl _)
      | (with_reducible exact LeO.none _)
      | (with_reducible refine LeO.ite ?_ ?_)
      | (with_reducible refine LeO.bind ?_ (fun _ => ?_))
      | exact ih0 _ _ _
      | exact fare_Single.mono _ _ _ _ _
      | exact gatelinelaw08_priced.mono _
      | exact LeO.none _
      | refine LeO.ite ?_ ?_
      | refine LeO.bind ?_ (fun _ => ?_)
set_option maxHeartbeats 8000000 in
set_option maxRecDepth 100000 in
theorem gatelinelaw08_FareFar.calls (k : Nat) (a0 : Int) (a1 : Int) (a2 : Int) (a3 : Int) (a4 : Int) (a5 : Int) (r : Bool) (w : World) (h : gatelinelaw08_FareFar.f k a0 a1 a2 a3 a4 a5 = some r) :
    Calls Try.prog 13 #[.int .i64 a0, .int .i64 a1, .int .i64 a2, .int .i64 a3, .int .i64 a4, .int .i64 a5] w fun e w' => e = .returned (.bool r) ∧ Below w.heap.size w w' := by
  have HB := Aside0.mk (Below.refl w.heap.size w)
  have H : ((fare_Single.f k a0 a1 a4 a5).bind fun bt291 => ((fare_Single.f k a2 a3 a4 a5).bind fun bt293 => ((line_Between.f a0 a1 a2).bind fun bt295 => ((line_Between.f a0 a1 a3).bind fun bt297 => (if bt291.2 = 0 then (if bt293.2 = 0 then (if bt295.2 = 0 then (if bt297.2 = 0 then (if bt295.1 = true then (gatelinelaw08_FareFar.j0 k bt291.1 bt293.1 (!bt297.1)) else (gatelinelaw08_FareFar.j0 k bt291.1 bt293.1 true)) else (gatelinelaw08_FareFar.j0 k bt291.1 bt293.1 true)) else (gatelinelaw08_FareFar.j0 k bt291.1 bt293.1 true)) else (gatelinelaw08_FareFar.j0 k bt291.1 bt293.1 true)) else (gatelinelaw08_FareFar.j0 k bt291.1 bt293.1 true)))))) = some r := h
  clear h
  replace H := Option.bind_eq_some_iff.mp H
  obtain ⟨⟨t291, t292⟩, A70, H⟩ := H
  replace H : ((fare_Single.f k a2 a3 a4 a5).bind fun bt293 => ((line_Between.f a0 a1 a2).bind fun bt295 => ((line_Between.f a0 a1 a3).bind fun bt297 => (if t292 = 0 then (if bt293.2 = 0 then (if bt295.2 = 0 then (if bt297.2 = 0 then (if bt295.1 = true then (gatelinelaw08_FareFar.j0 k t291 bt293.1 (!bt297.1)) else (gatelinelaw08_FareFar.j0 k t291 bt293.1 true)) else (gatelinelaw08_FareFar.j0 k t291 bt293.1 true)) else (gatelinelaw08_FareFar.j0 k t291 bt293.1 true)) else (gatelinelaw08_FareFar.j0 k t291 bt293.1 true)) else (gatelinelaw08_FareFar.j0 k t291 bt293.1 true))))) = some r := H
  have A7 := Aside0.mk A70
  clear A70
  replace H := Option.bind_eq_some_iff.mp H
  obtain ⟨⟨t293, t294⟩, A80, H⟩ := H
  replace H : ((line_Between.f a0 a1 a2).bind fun bt295 => ((line_Between.f a0 a1 a3).bind fun bt297 => (if t292 = 0 then (if t294 = 0 then (if bt295.2 = 0 then (if bt297.2 = 0 then (if bt295.1 = true then (gatelinelaw08_FareFar.j0 k t291 t293 (!bt297.1)) else (gatelinelaw08_FareFar.j0 k t291 t293 true)) else (gatelinelaw08_FareFar.j0 k t291 t293 true)) else (gatelinelaw08_FareFar.j0 k t291 t293 true)) else (gatelinelaw08_FareFar.j0 k t291 t293 true)) else (gatelinelaw08_FareFar.j0 k t291 t293 true)))) = some r := H
  have A8 := Aside0.mk A80
  clear A80
  replace H := Option.bind_eq_some_iff.mp H
  obtain ⟨⟨t295, t296⟩, A90, H⟩ := H
  replace H : ((line_Between.f a0 a1 a3).bind fun bt297 => (if t292 = 0 then (if t294 = 0 then (if t296 = 0 then (if bt297.2 = 0 then (if t295 = true then (gatelinelaw08_FareFar.j0 k t291 t293 (!bt297.1)) else (gatelinelaw08_FareFar.j0 k t291 t293 true)) else (gatelinelaw08_FareFar.j0 k t291 t293 true)) else (gatelinelaw08_FareFar.j0 k t291 t293 true)) else (gatelinelaw08_FareFar.j0 k t291 t293 true)) else (gatelinelaw08_FareFar.j0 k t291 t293 true))) = some r := H
  have A9 := Aside0.mk A90
  clear A90
  replace H := Option.bind_eq_some_iff.mp H
  obtain ⟨⟨t297, t298⟩, A100, H⟩ := H
  replace H : (if t292 = 0 then (if t294 = 0 then (if t296 = 0 then (if t298 = 0 then (if t295 = true then (gatelinelaw08_FareFar.j0 k t291 t293 (!t297)) else (gatelinelaw08_FareFar.j0 k t291 t293 true)) else (gatelinelaw08_FareFar.j0 k t291 t293 true)) else (gatelinelaw08_FareFar.j0 k t291 t293 true)) else (gatelinelaw08_FareFar.j0 k t291 t293 true)) else (gatelinelaw08_FareFar.j0 k t291 t293 true)) = some r := H
  have A10 := Aside0.mk A100
  clear A100
  have HC11 := Aside0.mk H
  clear H
  go_enter Try.func13, Try.ntmps13
  go_upto_region 5 with (first | ((with_reducible refine gate_callee (f := 31) rfl ?_); refine goesL_ (some 26) rfl rfl Try.func31 (by kernel_rfl) rfl #[.int .i64 a0, .int .i64 a1, .int .i64 a4, .int .i64 a5] rfl (by (try simp only [List.map_toArray, List.map_cons, List.map_nil]); first | done | rfl | (simp only [List.length_drop, List.length_take]; rfl)) ?_; (with_reducible refine (fare_Single.calls k a0 a1 a4 a5 t291 t292 _ A7.out).mono ?_); rintro e w12 ⟨rfl, hb⟩; refine ⟨_, rfl, ?_⟩; have n0_ := Aside0.mk (below_step (by repeat (first | (with_reducible first | exact HB.out | apply below_alloc | apply pw_below_drewN | apply below_drew1) | exact HB.out)) hb); clear HB; have HB := n0_; clear n0_; (try clear hb); (try clear hb2); (try clear hk); (try clear hi); (try clear A7)) | ((with_reducible refine gate_callee (f := 31) rfl ?_); refine goesL_ (some 34) rfl rfl Try.func31 (by kernel_rfl) rfl #[.int .i64 a2, .int .i64 a3, .int .i64 a4, .int .i64 a5] rfl (by (try simp only [List.map_toArray, List.map_cons, List.map_nil]); first | done | rfl | (simp only [List.length_drop, List.length_take]; rfl)) ?_; (with_reducible refine (fare_Single.calls k a2 a3 a4 a5 t293 t294 _ A8.out).mono ?_); rintro e w13 ⟨rfl, hb⟩; refine ⟨_, rfl, ?_⟩; have n0_ := Aside0.mk (below_step (by repeat (first | (with_reducible first | exact HB.out | apply below_alloc | apply pw_below_drewN | apply below_drew1) | exact HB.out)) hb); clear HB; have HB := n0_; clear n0_; (try clear hb); (try clear hb2); (try clear hk); (try clear hi); (try clear A8)) | ((with_reducible refine gate_callee (f := 16) rfl ?_); refine goesL_ (some 41) rfl rfl Try.func16 (by kernel_rfl) rfl #[.int .i64 a0, .int .i64 a1, .int .i64 a2] rfl (by (try simp only [List.map_toArray, List.map_cons, List.map_nil]); first | done | rfl | (simp only [List.length_drop, List.length_take]; rfl)) ?_; (with_reducible refine (line_Between.calls a0 a1 a2 t295 t296 _ A9.out).mono ?_); rintro e w14 ⟨rfl, hb⟩; refine ⟨_, rfl, ?_⟩; have n0_ := Aside0.mk (below_step (by repeat (first | (with_reducible first | exact HB.out | apply below_alloc | apply pw_below_drewN | apply below_drew1) | exact HB.out)) hb); clear HB; have HB := n0_; clear n0_; (try clear hb); (try clear hb2); (try clear hk); (try clear hi); (try clear A9)) | ((with_reducible refine gate_callee (f := 16) rfl ?_); refine goesL_ (some 48) rfl rfl Try.func16 (by kernel_rfl) rfl #[.int .i64 a0, .int .i64 a1, .int .i64 a3] rfl (by (try simp only [List.map_toArray, List.map_cons, List.map_nil]); first | done | rfl | (simp only [List.length_drop, List.length_take]; rfl)) ?_; (with_reducible refine (line_Between.calls a0 a1 a3 t297 t298 _ A10.out).mono ?_); rintro e w15 ⟨rfl, hb⟩; refine ⟨_, rfl, ?_⟩; have n0_ := Aside0.mk (below_step (by repeat (first | (with_reducible first | exact HB.out | apply below_alloc | apply pw_below_drewN | apply below_drew1) | exact HB.out)) hb); clear HB; have HB := n0_; clear n0_; (try clear hb); (try clear hb2); (try clear hk); (try clear hi); (try clear A10)))
  (try simp only [Act.put, List.setIfInBounds_toArray, List.set_cons_zero, List.set_cons_succ])
  go_cut [72] (fun v72 wc => ∃ (kq : Nat) (x72_10 : Bool), v72 = .bool x72_10 ∧ Aside0 (gatelinelaw08_FareFar.j0 kq t291 t293 x72_10 = some r) ∧ Aside0 (kq ≤ k) ∧ Aside0 (Below w.heap.size w wc))
  case first =>
    have H := HC11.out
    clear HC11
    by_cases c16 : t292 = 0
    · rw [if_pos c16] at H
      have c16b0 : (t292 == 0) = true := beq_iff_eq.mpr c16
      have c16b1 : (t292 != 0) = false := bne_eq_false_iff_eq.mpr c16
      clear c16
      (first | rw [c16b0] | (simp only [i64_w, i32_w]; rw [c16b0]) | skip)
      by_cases c17 : t294 = 0
      · rw [if_pos c17] at H
        have c17b0 : (t294 == 0) = true := beq_iff_eq.mpr c17
        have c17b1 : (t294 != 0) = false := bne_eq_false_iff_eq.mpr c17
        clear c17
        by_cases c18 : t296 = 0
        · rw [if_pos c18] at H
          have c18b0 : (t296 == 0) = true := beq_iff_eq.mpr c18
          have c18b1 : (t296 != 0) = false := bne_eq_false_iff_eq.mpr c18
          clear c18
          by_cases c19 : t298 = 0
          · rw [if_pos c19] at H
            have c19b0 : (t298 == 0) = true := beq_iff_eq.mpr c19
            have c19b1 : (t298 != 0) = false := bne_eq_false_iff_eq.mpr c19
            clear c19
            by_cases c20 : t295 = true
            · subst c20
              have H1 : (gatelinelaw08_FareFar.j0 k t291 t293 (!t297)) = some r := by rw [if_pos rfl] at H; exact H
              clear H
              have H := H1
              clear H1
              have H' := Aside0.mk H
              clear H
              go_wp2
              go_meet
              case rel => exact ⟨_, (!t297), (by first | rfl | (simp; done) | (simp [*]; done)), H', ⟨by first | omega | exact Nat.le_refl _⟩, ⟨by repeat (first | (with_reducible first | exact HB.out | apply below_alloc | apply pw_below_drewN | apply below_drew1) | exact HB.out)⟩⟩
            · replace c20 := Bool.eq_false_iff.mpr c20
              subst c20
              have H1 : (gatelinelaw08_FareFar.j0 k t291 t293 true) = some r := by rw [if_neg (show ¬ (false = true) by decide)] at H; exact H
              clear H
              have H := H1
              clear H1
              have H' := Aside0.mk H
              clear H
              go_wp2
              go_meet
              case rel => exact ⟨_, (true), (by first | rfl | (simp; done) | (simp [*]; done)), H', ⟨by first | omega | exact Nat.le_refl _⟩, ⟨by repeat (first | (with_reducible first | exact HB.out | apply below_alloc | apply pw_below_drewN | apply below_drew1) | exact HB.out)⟩⟩
          · rw [if_neg c19] at H
            have c19b0 : (t298 == 0) = false := beq_eq_false_iff_ne.mpr c19
            have c19b1 : (t298 != 0) = true := bne_iff_ne.mpr c19
            have H' := Aside0.mk H
            clear H
            go_wp2
            go_meet
            case rel => exact ⟨_, (true), (by first | rfl | (simp; done) | (simp [*]; done)), H', ⟨by first | omega | exact Nat.le_refl _⟩, ⟨by repeat (first | (with_reducible first | exact HB.out | apply below_alloc | apply pw_below_drewN | apply below_drew1) | exact HB.out)⟩⟩
        · rw [if_neg c18] at H
          have c18b0 : (t296 == 0) = false := beq_eq_false_iff_ne.mpr c18
          have c18b1 : (t296 != 0) = true := bne_iff_ne.mpr c18
          have H' := Aside0.mk H
          clear H
          go_wp2
          go_meet
          case rel => exact ⟨_, (true), (by first | rfl | (simp; done) | (simp [*]; done)), H', ⟨by first | omega | exact Nat.le_refl _⟩, ⟨by repeat (first | (with_reducible first | exact HB.out | apply below_alloc | apply pw_below_drewN | apply below_drew1) | exact HB.out)⟩⟩
      · rw [if_neg c17] at H
        have c17b0 : (t294 == 0) = false := beq_eq_false_iff_ne.mpr c17
        have c17b1 : (t294 != 0) = true := bne_iff_ne.mpr c17
        have H' := Aside0.mk H
        clear H
        go_wp2
        go_meet
        case rel => exact ⟨_, (true), (by first | rfl | (simp; done) | (simp [*]; done)), H', ⟨by first | omega | exact Nat.le_refl _⟩, ⟨by repeat (first | (with_reducible first | exact HB.out | apply below_alloc | apply pw_below_drewN | apply below_drew1) | exact HB.out)⟩⟩
    · rw [if_neg c16] at H
      have c16b0 : (t292 == 0) = false := beq_eq_false_iff_ne.mpr c16
      have c16b1 : (t292 != 0) = true := bne_iff_ne.mpr c16
      (first | rw [c16b0] | (simp only [i64_w, i32_w]; rw [c16b0]) | skip)
      have H' := Aside0.mk H
      clear H
      go_wp2
      go_meet
      case rel => exact ⟨_, (true), (by first | rfl | (simp; done) | (simp [*]; done)), H', ⟨by first | omega | exact Nat.le_refl _⟩, ⟨by repeat (first | (with_reducible first | exact HB.out | apply below_alloc | apply pw_below_drewN | apply below_drew1) | exact HB.out)⟩⟩
  case rest =>
    clear HC11
    try clear c1
    try clear c2
    try clear p2
    try clear c3
    try clear c13
    try clear c16
    try clear c16b0
    try clear c16b1
    try clear c17
    try clear c17b0
    try clear c17b1
    try clear c18
    try clear c18b0
    try clear c18b1
    try clear c19
    try clear c19b0
    try clear c19b1
    try clear c20
    obtain ⟨kq, x72_10, rfl, HA, HJ10, HB⟩ := hcut
    cases kq with
    | zero => exact absurd HA.out (by simp [gatelinelaw08_FareFar.j0])
    | succ kj10 =>
      have H := HA.out
      clear HA
      simp only [gatelinelaw08_FareFar.j0] at H
      by_cases c21 : x72_10 = true
      · subst c21
        have H1 : ((gatelinelaw08_priced.f kj10).bind fun t299 => (some t299)) = some r := by rw [if_pos rfl] at H; exact H
        clear H
        have H := H1
        clear H1
        replace H := Option.bind_eq_some_iff.mp H
        obtain ⟨t299, A220, H⟩ := H
        replace H : (some t299) = some r := H
        have A22 := Aside0.mk A220
        clear A220
        obtain rfl := Option.some.inj H
        go_wp2_with (first | ((with_reducible refine gate_callee (f := 30) rfl ?_); refine goesL_ (some 73) rfl rfl Try.func30 (by kernel_rfl) rfl #[] rfl (by (try simp only [List.map_toArray, List.map_cons, List.map_nil]); first | done | rfl | (simp only [List.length_drop, List.length_take]; rfl)) ?_; (with_reducible refine (gatelinelaw08_priced.calls kj10  t299 _ A22.out).mono ?_); rintro e w23 ⟨rfl, hb⟩; refine ⟨_, rfl, ?_⟩; have n0_ := Aside0.mk (below_step (by repeat (first | (with_reducible first | exact HB.out | apply below_alloc | apply pw_below_drewN | apply below_drew1) | exact HB.out)) hb); clear HB; have HB := n0_; clear n0_; (try clear hb); (try clear hb2); (try clear hk); (try clear hi); (try clear A22)))
        go_ret
        exact ⟨by first | rfl | (simp [errW_none, errW_some] <;> rfl) | (simp [*, errW_none, errW_some] <;> rfl), by repeat (first | (with_reducible first | exact HB.out | apply below_alloc | apply pw_below_drewN | apply below_drew1) | exact HB.out)⟩
      · replace c21 := Bool.eq_false_iff.mpr c21
        subst c21
        have H1 : ((gatelinelaw08_priced.f kj10).bind fun t300 => (if t300 = true then (some (decide (t293 ≤ t291))) else (some false))) = some r := by rw [if_neg (show ¬ (false = true) by decide)] at H; exact H
        clear H
        have H := H1
        clear H1
        replace H := Option.bind_eq_some_iff.mp H
        obtain ⟨t300, A240, H⟩ := H
        replace H : (if t300 = true then (some (decide (t293 ≤ t291))) else (some false)) = some r := H
        have A24 := Aside0.mk A240
        clear A240
        by_cases c25 : t300 = true
        · subst c25
          have H1 : (some (decide (t293 ≤ t291))) = some r := by rw [if_pos rfl] at H; exact H
          clear H
          have H := H1
          clear H1
          obtain rfl := Option.some.inj H
          go_wp2_with (first | ((with_reducible refine gate_callee (f := 30) rfl ?_); refine goesL_ (some 74) rfl rfl Try.func30 (by kernel_rfl) rfl #[] rfl (by (try simp only [List.map_toArray, List.map_cons, List.map_nil]); first | done | rfl | (simp only [List.length_drop, List.length_take]; rfl)) ?_; (with_reducible refine (gatelinelaw08_priced.calls kj10  true _ A24.out).mono ?_); rintro e w26 ⟨rfl, hb⟩; refine ⟨_, rfl, ?_⟩; have n0_ := Aside0.mk (below_step (by repeat (first | (with_reducible first | exact HB.out | apply below_alloc | apply pw_below_drewN | apply below_drew1) | exact HB.out)) hb); clear HB; have HB := n0_; clear n0_; (try clear hb); (try clear hb2); (try clear hk); (try clear hi); (try clear A24)))
          go_ret
          exact ⟨by first | rfl | (simp [errW_none, errW_some] <;> rfl) | (simp [*, errW_none, errW_some] <;> rfl), by repeat (first | (with_reducible first | exact HB.out | apply below_alloc | apply pw_below_drewN | apply below_drew1) | exact HB.out)⟩
        · replace c25 := Bool.eq_false_iff.mpr c25
          subst c25
          have H1 : (some false) = some r := by rw [if_neg (show ¬ (false = true) by decide)] at H; exact H
          clear H
          have H := H1
          clear H1
          obtain rfl := Option.some.inj H
          go_wp2_with (first | ((with_reducible refine gate_callee (f := 30) rfl ?_); refine goesL_ (some 74) rfl rfl Try.func30 (by kernel_rfl) rfl #[] rfl (by (try simp only [List.map_toArray, List.map_cons, List.map_nil]); first | done | rfl | (simp only [List.length_drop, List.length_take]; rfl)) ?_; (with_reducible refine (gatelinelaw08_priced.calls kj10  false _ A24.out).mono ?_); rintro e w27 ⟨rfl, hb⟩; refine ⟨_, rfl, ?_⟩; have n0_ := Aside0.mk (below_step (by repeat (first | (with_reducible first | exact HB.out | apply below_alloc | apply pw_below_drewN | apply below_drew1) | exact HB.out)) hb); clear HB; have HB := n0_; clear n0_; (try clear hb); (try clear hb2); (try clear hk); (try clear hi); (try clear A24)))
          go_ret
          exact ⟨by first | rfl | (simp [errW_none, errW_some] <;> rfl) | (simp [*, errW_none, errW_some] <;> rfl), by repeat (first | (with_reducible first | exact HB.out | apply below_alloc | apply pw_below_drewN | apply below_drew1) | exact HB.out)⟩

/-- THE ONE PURE STATEMENT of gatelinelaw08_FareFar: yours. -/
def gatelinelaw08_FareFar.Pure : Prop := ∀ (a0 : Int) (a1 : Int) (a2 : Int) (a3 : Int) (a4 : Int) (a5 : Int), (Lit.int .i64 a0).wf = true → (Lit.int .i64 a1).wf = true → (Lit.int .i64 a2).wf = true → (Lit.int .i64 a3).wf = true → (Lit.int .i64 a4).wf = true → (Lit.int .i64 a5).wf = true → ∃ k, gatelinelaw08_FareFar.f k a0 a1 a2 a3 a4 a5 = some true
theorem gatelinelaw08_FareFar.walk (P : gatelinelaw08_FareFar.Pure) (a0 : Int) (a1 : Int) (a2 : Int) (a3 : Int) (a4 : Int) (a5 : Int) (w : World) (w0 : (Lit.int .i64 a0).wf = true) (w1 : (Lit.int .i64 a1).wf = true) (w2 : (Lit.int .i64 a2).wf = true) (w3 : (Lit.int .i64 a3).wf = true) (w4 : (Lit.int .i64 a4).wf = true) (w5 : (Lit.int .i64 a5).wf = true) :
    Calls Try.prog 13 #[.int .i64 a0, .int .i64 a1, .int .i64 a2, .int .i64 a3, .int .i64 a4, .int .i64 a5] w fun e w' => e = .returned (.bool true) ∧ Below w.heap.size w w' := by
  obtain ⟨k, h⟩ := P a0 a1 a2 a3 a4 a5 w0 w1 w2 w3 w4 w5
  refine (gatelinelaw08_FareFar.calls k a0 a1 a2 a3 a4 a5 true w h).mono ?_
  rintro e w' ⟨rfl, hd⟩
  exact ⟨rfl, hd⟩

end Go.Proofs.Ytikaonejpbaikaa.PL
