/- What the functions that this claim reaches do and answer: printed words and walks, walks by hand and plain laws, packed together, each with its own remark; printed rows are by the kit's print program, turned by this session. Conditions: those that each theorem states. -/
import Derived.WalkKit
import Derived.KernelRfl
import Derived.Outline
import Derived.Deep.QuietTactic
import Derived.BigQuiet
import Derived.RegionTactic
import Derived.WalkSpells
import Derived.Laws.Tables
import Derived.Laws.Rows
import Derived.Laws.ResultCell
import Derived.Deep.RegionHeld3
import Derived.Test.YtekgienbhpknlaaKA1
import Derived.Test.YtekgienbhpknlaaKA2
import Derived.Test.YtekgienbhpknlaaProg
import Derived.Test.YtekgienbhpknlaaKA0
section
namespace Go.Proofs.Ytekgienbhpknlaa.PL
open Go.RowKit Go.Proofs.YtekgienbhpknlaaW.PrintWords Go.Proofs.YtekgienbhpknlaaW.PrintLast Go.Proofs.YtekgienbhpknlaaW.PrintMore
attribute [local go_sem] max2_int min2_int max_two min_two max_three min_three max_four min_four   -- for this text's walks alone
set_option linter.unusedVariables false
set_option linter.unusedSimpArgs false

/-! ### gatelineref17_Is: function 20 -/
def gatelineref17_Is.l0 : Nat → List (S40) → Int → Option (Bool)
  | 0, _, _ => none
  | k + 1, x0, x3 => if x3 < (x0.length : Int) then (if 0 ≤ x3 then (if ((rd_T40 x0 x3).f0) < 1 then (some false) else (if ((rd_T40 x0 x3).f0) > 255 then (some false) else (if (((rd_T40 x0 x3).f1).length : Int) > 255 then (some false) else (if x3 > 0 then (if 0 ≤ (wrap64 (x3 - 1)) then (if (wrap64 (x3 - 1)) < (x0.length : Int) then (if ((rd_T40 x0 x3).f0) ≤ ((rd_T40 x0 (wrap64 (x3 - 1))).f0) then (some false) else (gatelineref17_Is.l0 k x0 (wrap64 (x3 + 1)))) else (none)) else (none)) else (gatelineref17_Is.l0 k x0 (wrap64 (x3 + 1))))))) else (none)) else (some true)
def gatelineref17_Is.f (k : Nat) (l0 : List (S40)) : Option (Bool) := gatelineref17_Is.l0 k l0 0
theorem gatelineref17_Is.mono_l : ∀ k, (∀ y0 y1, LeO (gatelineref17_Is.l0 k y0 y1) (gatelineref17_Is.l0 (k + 1) y0 y1))
  | 0 => fun _ _ r h => by simp [gatelineref17_Is.l0] at h
  | k + 1 => by
    have ih0 := gatelineref17_Is.mono_l k
    · intro y0 y1
      unfold gatelineref17_Is.l0
      repeat' first
      | (with_reducible exact ih0 _ _)
      | (with_reducible exact LeO.refl _)
      | (with_reducible exact LeO.none _)
      | (with_reducible refine LeO.ite ?_ ?_)
      | (with_reducible refine LeO.bind ?_ (fun _ => ?_))
      | exact ih0 _ _
      | exact LeO.none _
      | refine LeO.ite ?_ ?_
      | refine LeO.bind ?_ (fun _ => ?_)
theorem gatelineref17_Is.mono : ∀ a0 k, LeO (gatelineref17_Is.f k a0) (gatelineref17_Is.f (k + 1) a0) := by
  intro a0 k
  have ih0 := gatelineref17_Is.mono_l k
  unfold gatelineref17_Is.f
  repeat' first
      | (with_reducible exact ih0 _ _)
      | (with_reducible exact LeO.refl _)
      | (with_reducible exact LeO.none _)
      | (with_reducible refine LeO.ite ?_ ?_)
      | (with_reducible refine LeO.bind ?_ (fun _ => ?_))
      | exact ih0 _ _
      | exact LeO.none _
      | refine LeO.ite ?_ ?_
      | refine LeO.bind ?_ (fun _ => ?_)
set_option maxHeartbeats 8000000 in
set_option maxRecDepth 100000 in
theorem gatelineref17_Is.calls (k : Nat) (A0 : Option Addr) (c0 : Nat) (l0 : List (S40)) (r : Bool) (w : World) (hr0 : Kd.C k40 w A0 l0.length l0) (hc0 : l0.length ≤ c0) (h : gatelineref17_Is.f k l0 = some r) :
    Calls Try.prog 20 #[.slice A0 l0.length c0] w fun e w' => e = .returned (.bool r) ∧ Drawn0 w w' := by
  have HR0 := Aside0.mk hr0
  have HC0 := Aside0.mk hc0
  clear hr0 hc0
  have H : (gatelineref17_Is.l0 k l0 0) = some r := h
  clear h
  have H' := Aside0.mk H
  clear H
  go_enter Try.func20, Try.ntmps20
  go_wp2
  repeat (go_quiet (fail); try go_wp2)
  go_loopg [3] k (fun kq v3 w' => ∃ (x3_1 : Int), v3 = .int .i64 x3_1 ∧ Aside0 (gatelineref17_Is.l0 kq l0 x3_1 = some r) ∧ Aside0 (kq ≤ k) ∧ Drawn0 w w')
  case atStart => exact ⟨(0), (by first | rfl | (simp; done) | (simp [*]; done)), H', ⟨Nat.le_refl _⟩, by repeat (first | exact Drawn0.refl _ | apply Drawn0.step)⟩
  case round =>
    clear H'
    obtain ⟨x3_1, rfl, HA, HK1, ⟨m1, rfl⟩⟩ := hrel
    cases gk with
    | zero => exact absurd HA.out (by simp [gatelineref17_Is.l0])
    | succ k1 =>
      have H := HA.out
      clear HA
      simp only [gatelineref17_Is.l0] at H
      by_cases c2 : x3_1 < (l0.length : Int)
      · rw [if_pos c2] at H
        have c2b0 : decide (x3_1 < (l0.length : Int)) = true := decide_eq_true c2
        clear c2
        by_cases c3 : 0 ≤ x3_1
        · rw [if_pos c3] at H
          have c3b0 : decide (0 ≤ x3_1) = true := decide_eq_true c3
          clear c3
          by_cases c4 : ((rd_T40 l0 x3_1).f0) < 1
          · rw [if_pos c4] at H
            have c4b0 : decide (((rd_T40 l0 x3_1).f0) < 1) = true := decide_eq_true c4
            clear c4
            obtain rfl := Option.some.inj H
            have p241 : 0 ≤ (x3_1 : Int) := of_decide_eq_true (by first | (with_reducible assumption) | assumption)
            have q241 : x3_1 < (l0.length : Int) := of_decide_eq_true (by first | (with_reducible assumption) | assumption)
            obtain ⟨ad241, A241_1, c241_1, e241, hx241_0, hx241_1, hl241_1, hi241_1⟩ := at_T40 HR0.out x3_1 p241 q241
            cases e241
            have HR241_1 := Aside0.mk hi241_1
            have HC241_1 := Aside0.mk hl241_1
            clear hi241_1 hl241_1
            replace p241 := eq_true p241
            replace q241 := eq_true q241
            go_wp2
            repeat (go_quiet (fail); try go_wp2)
            go_ret
            exact ⟨by first | rfl | (simp; done) | (simp [*]; done), by repeat (first | exact Drawn0.refl _ | apply Drawn0.step)⟩
          · rw [if_neg c4] at H
            have c4b0 : decide (((rd_T40 l0 x3_1).f0) < 1) = false := decide_eq_false c4
            clear c4
            by_cases c5 : ((rd_T40 l0 x3_1).f0) > 255
            · rw [if_pos c5] at H
              have c5b0 : decide (255 < ((rd_T40 l0 x3_1).f0)) = true := decide_eq_true c5
              clear c5
              obtain rfl := Option.some.inj H
              have p241 : 0 ≤ (x3_1 : Int) := of_decide_eq_true (by first | (with_reducible assumption) | assumption)
              have q241 : x3_1 < (l0.length : Int) := of_decide_eq_true (by first | (with_reducible assumption) | assumption)
              obtain ⟨ad241, A241_1, c241_1, e241, hx241_0, hx241_1, hl241_1, hi241_1⟩ := at_T40 HR0.out x3_1 p241 q241
              cases e241
              have HR241_1 := Aside0.mk hi241_1
              have HC241_1 := Aside0.mk hl241_1
              clear hi241_1 hl241_1
              replace p241 := eq_true p241
              replace q241 := eq_true q241
              have p242 : 0 ≤ (x3_1 : Int) := of_decide_eq_true (by first | (with_reducible assumption) | assumption)
              have q242 : x3_1 < (l0.length : Int) := of_decide_eq_true (by first | (with_reducible assumption) | assumption)
              obtain ⟨ad242, A242_1, c242_1, e242, hx242_0, hx242_1, hl242_1, hi242_1⟩ := at_T40 HR0.out x3_1 p242 q242
              obtain rfl : ad241 = ad242 := (by injection e242)
              have HR242_1 := Aside0.mk hi242_1
              have HC242_1 := Aside0.mk hl242_1
              clear hi242_1 hl242_1
              replace p242 := eq_true p242
              replace q242 := eq_true q242
              have ea_ := Option.some.inj (hx241_1.symm.trans hx242_1)
              injection ea_ with ea_ en_ ec_
              subst ea_
              subst ec_
              clear en_
              go_wp2
              repeat (go_quiet (fail); try go_wp2)
              go_ret
              exact ⟨by first | rfl | (simp; done) | (simp [*]; done), by repeat (first | exact Drawn0.refl _ | apply Drawn0.step)⟩
            · rw [if_neg c5] at H
              have c5b0 : decide (255 < ((rd_T40 l0 x3_1).f0)) = false := decide_eq_false c5
              clear c5
              by_cases c6 : (((rd_T40 l0 x3_1).f1).length : Int) > 255
              · rw [if_pos c6] at H
                have c6b0 : decide (255 < (((rd_T40 l0 x3_1).f1).length : Int)) = true := decide_eq_true c6
                have c6b1 : decide (255 < ((rd_T40 l0 x3_1).f1).length) = true := decide_eq_true (by omega)
                clear c6
                obtain rfl := Option.some.inj H
                have p241 : 0 ≤ (x3_1 : Int) := of_decide_eq_true (by first | (with_reducible assumption) | assumption)
                have q241 : x3_1 < (l0.length : Int) := of_decide_eq_true (by first | (with_reducible assumption) | assumption)
                obtain ⟨ad241, A241_1, c241_1, e241, hx241_0, hx241_1, hl241_1, hi241_1⟩ := at_T40 HR0.out x3_1 p241 q241
                cases e241
                have HR241_1 := Aside0.mk hi241_1
                have HC241_1 := Aside0.mk hl241_1
                clear hi241_1 hl241_1
                replace p241 := eq_true p241
                replace q241 := eq_true q241
                have p242 : 0 ≤ (x3_1 : Int) := of_decide_eq_true (by first | (with_reducible assumption) | assumption)
                have q242 : x3_1 < (l0.length : Int) := of_decide_eq_true (by first | (with_reducible assumption) | assumption)
                obtain ⟨ad242, A242_1, c242_1, e242, hx242_0, hx242_1, hl242_1, hi242_1⟩ := at_T40 HR0.out x3_1 p242 q242
                obtain rfl : ad241 = ad242 := (by injection e242)
                have HR242_1 := Aside0.mk hi242_1
                have HC242_1 := Aside0.mk hl242_1
                clear hi242_1 hl242_1
                replace p242 := eq_true p242
                replace q242 := eq_true q242
                have ea_ := Option.some.inj (hx241_1.symm.trans hx242_1)
                injection ea_ with ea_ en_ ec_
                subst ea_
                subst ec_
                clear en_
                have p243 : 0 ≤ (x3_1 : Int) := of_decide_eq_true (by first | (with_reducible assumption) | assumption)
                have q243 : x3_1 < (l0.length : Int) := of_decide_eq_true (by first | (with_reducible assumption) | assumption)
                obtain ⟨ad243, A243_1, c243_1, e243, hx243_0, hx243_1, hl243_1, hi243_1⟩ := at_T40 HR0.out x3_1 p243 q243
                obtain rfl : ad241 = ad243 := (by injection e243)
                have HR243_1 := Aside0.mk hi243_1
                have HC243_1 := Aside0.mk hl243_1
                clear hi243_1 hl243_1
                replace p243 := eq_true p243
                replace q243 := eq_true q243
                have ea_ := Option.some.inj (hx241_1.symm.trans hx243_1)
                injection ea_ with ea_ en_ ec_
                subst ea_
                subst ec_
                clear en_
                go_wp2
                repeat (go_quiet (fail); try go_wp2)
                go_ret
                exact ⟨by first | rfl | (simp; done) | (simp [*]; done), by repeat (first | exact Drawn0.refl _ | apply Drawn0.step)⟩
              · rw [if_neg c6] at H
                have c6b0 : decide (255 < (((rd_T40 l0 x3_1).f1).length : Int)) = false := decide_eq_false c6
                have c6b1 : decide (255 < ((rd_T40 l0 x3_1).f1).length) = false := decide_eq_false (by omega)
                clear c6
                by_cases c7 : x3_1 > 0
                · rw [if_pos c7] at H
                  have c7b0 : decide (0 < x3_1) = true := decide_eq_true c7
                  clear c7
                  obtain ⟨ji8, hji8⟩ : ∃ j_ : Int, (wrap64 (x3_1 - 1)) = j_ := ⟨_, rfl⟩
                  replace H : (if 0 ≤ (ji8) then (if (ji8) < (l0.length : Int) then (if ((rd_T40 l0 x3_1).f0) ≤ ((rd_T40 l0 (ji8)).f0) then (some false) else (gatelineref17_Is.l0 k1 l0 (wrap64 (x3_1 + 1)))) else (none)) else (none)) = some r := by first | (rw [hji8] at H; exact H) | (simp only [hji8] at H ⊢; exact H)
                  have hji8w : (IntKind.i64.wrap (x3_1 - 1)) = ji8 := (i64_w _).trans hji8
                  by_cases c9 : 0 ≤ (ji8)
                  · rw [if_pos c9] at H
                    have c9b0 : decide (0 ≤ (ji8)) = true := decide_eq_true c9
                    clear c9
                    by_cases c10 : (ji8) < (l0.length : Int)
                    · rw [if_pos c10] at H
                      have c10b0 : decide ((ji8) < (l0.length : Int)) = true := decide_eq_true c10
                      clear c10
                      by_cases c11 : ((rd_T40 l0 x3_1).f0) ≤ ((rd_T40 l0 (ji8)).f0)
                      · rw [if_pos c11] at H
                        have c11b0 : decide (((rd_T40 l0 x3_1).f0) ≤ ((rd_T40 l0 (ji8)).f0)) = true := decide_eq_true c11
                        clear c11
                        obtain rfl := Option.some.inj H
                        have p241 : 0 ≤ (x3_1 : Int) := of_decide_eq_true (by first | (with_reducible assumption) | assumption)
                        have q241 : x3_1 < (l0.length : Int) := of_decide_eq_true (by first | (with_reducible assumption) | assumption)
                        obtain ⟨ad241, A241_1, c241_1, e241, hx241_0, hx241_1, hl241_1, hi241_1⟩ := at_T40 HR0.out x3_1 p241 q241
                        cases e241
                        have HR241_1 := Aside0.mk hi241_1
                        have HC241_1 := Aside0.mk hl241_1
                        clear hi241_1 hl241_1
                        replace p241 := eq_true p241
                        replace q241 := eq_true q241
                        have p242 : 0 ≤ (x3_1 : Int) := of_decide_eq_true (by first | (with_reducible assumption) | assumption)
                        have q242 : x3_1 < (l0.length : Int) := of_decide_eq_true (by first | (with_reducible assumption) | assumption)
                        obtain ⟨ad242, A242_1, c242_1, e242, hx242_0, hx242_1, hl242_1, hi242_1⟩ := at_T40 HR0.out x3_1 p242 q242
                        obtain rfl : ad241 = ad242 := (by injection e242)
                        have HR242_1 := Aside0.mk hi242_1
                        have HC242_1 := Aside0.mk hl242_1
                        clear hi242_1 hl242_1
                        replace p242 := eq_true p242
                        replace q242 := eq_true q242
                        have ea_ := Option.some.inj (hx241_1.symm.trans hx242_1)
                        injection ea_ with ea_ en_ ec_
                        subst ea_
                        subst ec_
                        clear en_
                        have p243 : 0 ≤ (x3_1 : Int) := of_decide_eq_true (by first | (with_reducible assumption) | assumption)
                        have q243 : x3_1 < (l0.length : Int) := of_decide_eq_true (by first | (with_reducible assumption) | assumption)
                        obtain ⟨ad243, A243_1, c243_1, e243, hx243_0, hx243_1, hl243_1, hi243_1⟩ := at_T40 HR0.out x3_1 p243 q243
                        obtain rfl : ad241 = ad243 := (by injection e243)
                        have HR243_1 := Aside0.mk hi243_1
                        have HC243_1 := Aside0.mk hl243_1
                        clear hi243_1 hl243_1
                        replace p243 := eq_true p243
                        replace q243 := eq_true q243
                        have ea_ := Option.some.inj (hx241_1.symm.trans hx243_1)
                        injection ea_ with ea_ en_ ec_
                        subst ea_
                        subst ec_
                        clear en_
                        have p244 : 0 ≤ (x3_1 : Int) := of_decide_eq_true (by first | (with_reducible assumption) | assumption)
                        have q244 : x3_1 < (l0.length : Int) := of_decide_eq_true (by first | (with_reducible assumption) | assumption)
                        obtain ⟨ad244, A244_1, c244_1, e244, hx244_0, hx244_1, hl244_1, hi244_1⟩ := at_T40 HR0.out x3_1 p244 q244
                        obtain rfl : ad241 = ad244 := (by injection e244)
                        have HR244_1 := Aside0.mk hi244_1
                        have HC244_1 := Aside0.mk hl244_1
                        clear hi244_1 hl244_1
                        replace p244 := eq_true p244
                        replace q244 := eq_true q244
                        have ea_ := Option.some.inj (hx241_1.symm.trans hx244_1)
                        injection ea_ with ea_ en_ ec_
                        subst ea_
                        subst ec_
                        clear en_
                        have p245 : 0 ≤ ((ji8) : Int) := of_decide_eq_true (by first | (with_reducible assumption) | assumption)
                        have q245 : (ji8) < (l0.length : Int) := of_decide_eq_true (by first | (with_reducible assumption) | assumption)
                        obtain ⟨ad245, A245_1, c245_1, e245, hx245_0, hx245_1, hl245_1, hi245_1⟩ := at_T40 HR0.out (ji8) p245 q245
                        obtain rfl : ad241 = ad245 := (by injection e245)
                        have HR245_1 := Aside0.mk hi245_1
                        have HC245_1 := Aside0.mk hl245_1
                        clear hi245_1 hl245_1
                        replace p245 := eq_true p245
                        replace q245 := eq_true q245
                        go_wp2
                        repeat (go_quiet (fail); try go_wp2)
                        go_ret
                        exact ⟨by first | rfl | (simp; done) | (simp only [← hji8] <;> (first | rfl | simp)) | (simp [*]; done), by repeat (first | exact Drawn0.refl _ | apply Drawn0.step)⟩
                      · rw [if_neg c11] at H
                        have c11b0 : decide (((rd_T40 l0 x3_1).f0) ≤ ((rd_T40 l0 (ji8)).f0)) = false := decide_eq_false c11
                        clear c11
                        have H' := Aside0.mk H
                        clear H
                        have p241 : 0 ≤ (x3_1 : Int) := of_decide_eq_true (by first | (with_reducible assumption) | assumption)
                        have q241 : x3_1 < (l0.length : Int) := of_decide_eq_true (by first | (with_reducible assumption) | assumption)
                        obtain ⟨ad241, A241_1, c241_1, e241, hx241_0, hx241_1, hl241_1, hi241_1⟩ := at_T40 HR0.out x3_1 p241 q241
                        cases e241
                        have HR241_1 := Aside0.mk hi241_1
                        have HC241_1 := Aside0.mk hl241_1
                        clear hi241_1 hl241_1
                        replace p241 := eq_true p241
                        replace q241 := eq_true q241
                        have p242 : 0 ≤ (x3_1 : Int) := of_decide_eq_true (by first | (with_reducible assumption) | assumption)
                        have q242 : x3_1 < (l0.length : Int) := of_decide_eq_true (by first | (with_reducible assumption) | assumption)
                        obtain ⟨ad242, A242_1, c242_1, e242, hx242_0, hx242_1, hl242_1, hi242_1⟩ := at_T40 HR0.out x3_1 p242 q242
                        obtain rfl : ad241 = ad242 := (by injection e242)
                        have HR242_1 := Aside0.mk hi242_1
                        have HC242_1 := Aside0.mk hl242_1
                        clear hi242_1 hl242_1
                        replace p242 := eq_true p242
                        replace q242 := eq_true q242
                        have ea_ := Option.some.inj (hx241_1.symm.trans hx242_1)
                        injection ea_ with ea_ en_ ec_
                        subst ea_
                        subst ec_
                        clear en_
                        have p243 : 0 ≤ (x3_1 : Int) := of_decide_eq_true (by first | (with_reducible assumption) | assumption)
                        have q243 : x3_1 < (l0.length : Int) := of_decide_eq_true (by first | (with_reducible assumption) | assumption)
                        obtain ⟨ad243, A243_1, c243_1, e243, hx243_0, hx243_1, hl243_1, hi243_1⟩ := at_T40 HR0.out x3_1 p243 q243
                        obtain rfl : ad241 = ad243 := (by injection e243)
                        have HR243_1 := Aside0.mk hi243_1
                        have HC243_1 := Aside0.mk hl243_1
                        clear hi243_1 hl243_1
                        replace p243 := eq_true p243
                        replace q243 := eq_true q243
                        have ea_ := Option.some.inj (hx241_1.symm.trans hx243_1)
                        injection ea_ with ea_ en_ ec_
                        subst ea_
                        subst ec_
                        clear en_
                        have p244 : 0 ≤ (x3_1 : Int) := of_decide_eq_true (by first | (with_reducible assumption) | assumption)
                        have q244 : x3_1 < (l0.length : Int) := of_decide_eq_true (by first | (with_reducible assumption) | assumption)
                        obtain ⟨ad244, A244_1, c244_1, e244, hx244_0, hx244_1, hl244_1, hi244_1⟩ := at_T40 HR0.out x3_1 p244 q244
                        obtain rfl : ad241 = ad244 := (by injection e244)
                        have HR244_1 := Aside0.mk hi244_1
                        have HC244_1 := Aside0.mk hl244_1
                        clear hi244_1 hl244_1
                        replace p244 := eq_true p244
                        replace q244 := eq_true q244
                        have ea_ := Option.some.inj (hx241_1.symm.trans hx244_1)
                        injection ea_ with ea_ en_ ec_
                        subst ea_
                        subst ec_
                        clear en_
                        have p245 : 0 ≤ ((ji8) : Int) := of_decide_eq_true (by first | (with_reducible assumption) | assumption)
                        have q245 : (ji8) < (l0.length : Int) := of_decide_eq_true (by first | (with_reducible assumption) | assumption)
                        obtain ⟨ad245, A245_1, c245_1, e245, hx245_0, hx245_1, hl245_1, hi245_1⟩ := at_T40 HR0.out (ji8) p245 q245
                        obtain rfl : ad241 = ad245 := (by injection e245)
                        have HR245_1 := Aside0.mk hi245_1
                        have HC245_1 := Aside0.mk hl245_1
                        clear hi245_1 hl245_1
                        replace p245 := eq_true p245
                        replace q245 := eq_true q245
                        go_wp2
                        repeat (go_quiet (fail); try go_wp2)
                        go_roundg k1
                        case measure => have := HK1.out; omega
                        case rel => exact ⟨(wrap64 (x3_1 + 1)), (by first | rfl | (simp; done) | (simp [*]; done)), H', ⟨by have := HK1.out; omega⟩, by repeat (first | exact Drawn0.refl _ | apply Drawn0.step)⟩
                    · rw [if_neg c10] at H
                      exact absurd H (by simp)
                  · rw [if_neg c9] at H
                    exact absurd H (by simp)
                · rw [if_neg c7] at H
                  have c7b0 : decide (0 < x3_1) = false := decide_eq_false c7
                  clear c7
                  have H' := Aside0.mk H
                  clear H
                  have p241 : 0 ≤ (x3_1 : Int) := of_decide_eq_true (by first | (with_reducible assumption) | assumption)
                  have q241 : x3_1 < (l0.length : Int) := of_decide_eq_true (by first | (with_reducible assumption) | assumption)
                  obtain ⟨ad241, A241_1, c241_1, e241, hx241_0, hx241_1, hl241_1, hi241_1⟩ := at_T40 HR0.out x3_1 p241 q241
                  cases e241
                  have HR241_1 := Aside0.mk hi241_1
                  have HC241_1 := Aside0.mk hl241_1
                  clear hi241_1 hl241_1
                  replace p241 := eq_true p241
                  replace q241 := eq_true q241
                  have p242 : 0 ≤ (x3_1 : Int) := of_decide_eq_true (by first | (with_reducible assumption) | assumption)
                  have q242 : x3_1 < (l0.length : Int) := of_decide_eq_true (by first | (with_reducible assumption) | assumption)
                  obtain ⟨ad242, A242_1, c242_1, e242, hx242_0, hx242_1, hl242_1, hi242_1⟩ := at_T40 HR0.out x3_1 p242 q242
                  obtain rfl : ad241 = ad242 := (by injection e242)
                  have HR242_1 := Aside0.mk hi242_1
                  have HC242_1 := Aside0.mk hl242_1
                  clear hi242_1 hl242_1
                  replace p242 := eq_true p242
                  replace q242 := eq_true q242
                  have ea_ := Option.some.inj (hx241_1.symm.trans hx242_1)
                  injection ea_ with ea_ en_ ec_
                  subst ea_
                  subst ec_
                  clear en_
                  have p243 : 0 ≤ (x3_1 : Int) := of_decide_eq_true (by first | (with_reducible assumption) | assumption)
                  have q243 : x3_1 < (l0.length : Int) := of_decide_eq_true (by first | (with_reducible assumption) | assumption)
                  obtain ⟨ad243, A243_1, c243_1, e243, hx243_0, hx243_1, hl243_1, hi243_1⟩ := at_T40 HR0.out x3_1 p243 q243
                  obtain rfl : ad241 = ad243 := (by injection e243)
                  have HR243_1 := Aside0.mk hi243_1
                  have HC243_1 := Aside0.mk hl243_1
                  clear hi243_1 hl243_1
                  replace p243 := eq_true p243
                  replace q243 := eq_true q243
                  have ea_ := Option.some.inj (hx241_1.symm.trans hx243_1)
                  injection ea_ with ea_ en_ ec_
                  subst ea_
                  subst ec_
                  clear en_
                  go_wp2
                  repeat (go_quiet (fail); try go_wp2)
                  go_roundg k1
                  case measure => have := HK1.out; omega
                  case rel => exact ⟨(wrap64 (x3_1 + 1)), (by first | rfl | (simp; done) | (simp [*]; done)), H', ⟨by have := HK1.out; omega⟩, by repeat (first | exact Drawn0.refl _ | apply Drawn0.step)⟩
        · rw [if_neg c3] at H
          exact absurd H (by simp)
      · rw [if_neg c2] at H
        have c2b0 : decide (x3_1 < (l0.length : Int)) = false := decide_eq_false c2
        clear c2
        obtain rfl := Option.some.inj H
        go_wp2
        repeat (go_quiet (fail); try go_wp2)
        go_ret
        exact ⟨by first | rfl | (simp; done) | (simp [*]; done), by repeat (first | exact Drawn0.refl _ | apply Drawn0.step)⟩

/-! ### gatelineref17_Big: function 14 -/
mutual
def gatelineref17_Big.l0 : Nat → List (S40) → Int → Option (Bool)
  | 0, _, _ => none
  | k + 1, x0, x3 => if x3 < (x0.length : Int) then (gatelineref17_Big.j1 k x0 x3 (decide ((x0.length : Int) ≤ 300))) else (gatelineref17_Big.j1 k x0 x3 false)
def gatelineref17_Big.j1 : Nat → List (S40) → Int → Bool → Option (Bool)
  | 0, _, _, _ => none
  | k + 1, x0, x3, x12 => if x12 = true then (if 0 ≤ x3 then (if x3 < (x0.length : Int) then (if (((rd_T40 x0 x3).f1).length : Int) > 400 then (some true) else (gatelineref17_Big.l0 k x0 (wrap64 (x3 + 1)))) else (none)) else (none)) else (some (decide ((x0.length : Int) > 300)))
end
def gatelineref17_Big.f (k : Nat) (l0 : List (S40)) : Option (Bool) := gatelineref17_Big.l0 k l0 0
theorem gatelineref17_Big.mono_l : ∀ k, (∀ y0 y1, LeO (gatelineref17_Big.l0 k y0 y1) (gatelineref17_Big.l0 (k + 1) y0 y1)) ∧ (∀ y0 y1 y2, LeO (gatelineref17_Big.j1 k y0 y1 y2) (gatelineref17_Big.j1 (k + 1) y0 y1 y2))
  | 0 => ⟨fun _ _ r h => by simp [gatelineref17_Big.l0] at h, fun _ _ _ r h => by simp [gatelineref17_Big.j1] at h⟩
  | k + 1 => by
    obtain ⟨ih0, ih1⟩ := gatelineref17_Big.mono_l k
    refine ⟨?_, ?_⟩
    · intro y0 y1
      unfold gatelineref17_Big.l0
      repeat' first
      | (with_reducible exact ih0 _ _)
      | (with_reducible exact ih1 _ _ _)
      | (with_reducible exact LeO.refl _)
      | (with_reducible exact LeO.none _)
      | (with_reducible refine LeO.ite ?_ ?_)
      | (with_reducible refine LeO.bind ?_ (fun _ => ?_))
      | exact ih0 _ _
      | exact ih1 _ _ _
      | exact LeO.none _
      | refine LeO.ite ?_ ?_
      | refine LeO.bind ?_ (fun _ => ?_)
    · intro y0 y1 y2
      unfold gatelineref17_Big.j1
      repeat' first
      | (with_reducible exact ih0 _ _)
      | (with_reducible exact ih1 _ _ _)
      | (with_reducible exact LeO.refl _)
      | (with_reducible exact LeO.none _)
      | (with_reducible refine LeO.ite ?_ ?_)
      | (with_reducible refine LeO.bind ?_ (fun _ => ?_))
      | exact ih0 _ _
      | exact ih1 _ _ _
      | exact LeO.none _
      | refine LeO.ite ?_ ?_
      | refine LeO.bind ?_ (fun _ => ?_)
theorem gatelineref17_Big.mono : ∀ a0 k, LeO (gatelineref17_Big.f k a0) (gatelineref17_Big.f (k + 1) a0) := by
  intro a0 k
  obtain ⟨ih0, ih1⟩ := gatelineref17_Big.mono_l k
  unfold gatelineref17_Big.f
  repeat' first
      | (with_reducible exact ih0 _ _)
      | (with_reducible exact ih1 _ _ _)
      | (with_reducible exact LeO.refl _)
      | (with_reducible exact LeO.none _)
      | (with_reducible refine LeO.ite ?_ ?_)
      | (with_reducible refine LeO.bind ?_ (fun _ => ?_))
      | exact ih0 _ _
      | exact ih1 _ _ _
      | exact LeO.none _
      | refine LeO.ite ?_ ?_
      | refine LeO.bind ?_ (fun _ => ?_)
set_option maxHeartbeats 8000000 in
set_option maxRecDepth 100000 in
theorem gatelineref17_Big.calls (k : Nat) (A0 : Option Addr) (c0 : Nat) (l0 : List (S40)) (r : Bool) (w : World) (hr0 : Kd.C k40 w A0 l0.length l0) (hc0 : l0.length ≤ c0) (h : gatelineref17_Big.f k l0 = some r) :
    Calls Try.prog 14 #[.slice A0 l0.length c0] w fun e w' => e = .returned (.bool r) ∧ Drawn0 w w' := by
  have HR0 := Aside0.mk hr0
  have HC0 := Aside0.mk hc0
  clear hr0 hc0
  have H : (gatelineref17_Big.l0 k l0 0) = some r := h
  clear h
  have H' := Aside0.mk H
  clear H
  go_enter Try.func14, Try.ntmps14
  go_wp2
  go_loopg [3] k (fun kq v3 w' => ∃ (x3_1 : Int), v3 = .int .i64 x3_1 ∧ Aside0 (gatelineref17_Big.l0 kq l0 x3_1 = some r) ∧ Aside0 (kq ≤ k) ∧ Drawn0 w w')
  case atStart => exact ⟨(0), (by first | rfl | (simp; done) | (simp [*]; done)), H', ⟨Nat.le_refl _⟩, by repeat (first | exact Drawn0.refl _ | apply Drawn0.step)⟩
  case round =>
    clear H'
    try clear c1
    obtain ⟨x3_1, rfl, HA, HK1, ⟨m1, rfl⟩⟩ := hrel
    cases gk with
    | zero => exact absurd HA.out (by simp [gatelineref17_Big.l0])
    | succ k1 =>
      have H := HA.out
      clear HA
      simp only [gatelineref17_Big.l0] at H
      have HC2 := Aside0.mk H
      clear H
      go_upto_region 2 with (fail)
      go_cut [12] (fun v12 wc => ∃ (kq : Nat) (x12_1 : Bool), v12 = .bool x12_1 ∧ Aside0 (gatelineref17_Big.j1 kq l0 x3_1 x12_1 = some r) ∧ Aside0 (kq ≤ k1) ∧ Drawn0 w wc)
      case first =>
        have H := HC2.out
        clear HC2
        by_cases c3 : x3_1 < (l0.length : Int)
        · rw [if_pos c3] at H
          have c3b0 : decide (x3_1 < (l0.length : Int)) = true := decide_eq_true c3
          clear c3
          (first | rw [c3b0] | (simp only [i64_w, i32_w]; rw [c3b0]) | skip)
          have H' := Aside0.mk H
          clear H
          go_wp2
          go_meet
          case rel => exact ⟨_, (decide ((l0.length : Int) ≤ 300)), (by first | rfl | (simp; done) | (simp [*]; done)), H', ⟨by have := HK1.out; first | omega | exact Nat.le_refl _⟩, by repeat (first | exact Drawn0.refl _ | apply Drawn0.step)⟩
        · rw [if_neg c3] at H
          have c3b0 : decide (x3_1 < (l0.length : Int)) = false := decide_eq_false c3
          clear c3
          (first | rw [c3b0] | (simp only [i64_w, i32_w]; rw [c3b0]) | skip)
          have H' := Aside0.mk H
          clear H
          go_wp2
          go_meet
          case rel => exact ⟨_, (false), (by first | rfl | (simp; done) | (simp [*]; done)), H', ⟨by have := HK1.out; first | omega | exact Nat.le_refl _⟩, by repeat (first | exact Drawn0.refl _ | apply Drawn0.step)⟩
      case rest =>
        clear HC2
        try clear c1
        try clear p2
        try clear c3
        try clear c3b0
        obtain ⟨kq, x12_1, rfl, HA, HJ1, ⟨mc1, rfl⟩⟩ := hcut
        cases kq with
        | zero => exact absurd HA.out (by simp [gatelineref17_Big.j1])
        | succ kj1 =>
          have H := HA.out
          clear HA
          simp only [gatelineref17_Big.j1] at H
          by_cases c4 : x12_1 = true
          · subst c4
            have H1 : (if 0 ≤ x3_1 then (if x3_1 < (l0.length : Int) then (if (((rd_T40 l0 x3_1).f1).length : Int) > 400 then (some true) else (gatelineref17_Big.l0 kj1 l0 (wrap64 (x3_1 + 1)))) else (none)) else (none)) = some r := by rw [if_pos rfl] at H; exact H
            clear H
            have H := H1
            clear H1
            by_cases c5 : 0 ≤ x3_1
            · rw [if_pos c5] at H
              have c5b0 : decide (0 ≤ x3_1) = true := decide_eq_true c5
              clear c5
              by_cases c6 : x3_1 < (l0.length : Int)
              · rw [if_pos c6] at H
                have c6b0 : decide (x3_1 < (l0.length : Int)) = true := decide_eq_true c6
                clear c6
                by_cases c7 : (((rd_T40 l0 x3_1).f1).length : Int) > 400
                · rw [if_pos c7] at H
                  have c7b0 : decide (400 < (((rd_T40 l0 x3_1).f1).length : Int)) = true := decide_eq_true c7
                  have c7b1 : decide (400 < ((rd_T40 l0 x3_1).f1).length) = true := decide_eq_true (by omega)
                  clear c7
                  obtain rfl := Option.some.inj H
                  have p240 : 0 ≤ (x3_1 : Int) := of_decide_eq_true (by first | (with_reducible assumption) | assumption)
                  have q240 : x3_1 < (l0.length : Int) := of_decide_eq_true (by first | (with_reducible assumption) | assumption)
                  obtain ⟨ad240, A240_1, c240_1, e240, hx240_0, hx240_1, hl240_1, hi240_1⟩ := at_T40 HR0.out x3_1 p240 q240
                  cases e240
                  have HR240_1 := Aside0.mk hi240_1
                  have HC240_1 := Aside0.mk hl240_1
                  clear hi240_1 hl240_1
                  replace p240 := eq_true p240
                  replace q240 := eq_true q240
                  go_wp2
                  go_ret
                  exact ⟨by first | rfl | (simp; done) | (simp [*]; done), by repeat (first | exact Drawn0.refl _ | apply Drawn0.step)⟩
                · rw [if_neg c7] at H
                  have c7b0 : decide (400 < (((rd_T40 l0 x3_1).f1).length : Int)) = false := decide_eq_false c7
                  have c7b1 : decide (400 < ((rd_T40 l0 x3_1).f1).length) = false := decide_eq_false (by omega)
                  clear c7
                  have H' := Aside0.mk H
                  clear H
                  have p240 : 0 ≤ (x3_1 : Int) := of_decide_eq_true (by first | (with_reducible assumption) | assumption)
                  have q240 : x3_1 < (l0.length : Int) := of_decide_eq_true (by first | (with_reducible assumption) | assumption)
                  obtain ⟨ad240, A240_1, c240_1, e240, hx240_0, hx240_1, hl240_1, hi240_1⟩ := at_T40 HR0.out x3_1 p240 q240
                  cases e240
                  have HR240_1 := Aside0.mk hi240_1
                  have HC240_1 := Aside0.mk hl240_1
                  clear hi240_1 hl240_1
                  replace p240 := eq_true p240
                  replace q240 := eq_true q240
                  go_wp2
                  go_roundg kj1
                  case measure => have := HK1.out; have := HJ1.out; omega
                  case rel => exact ⟨(wrap64 (x3_1 + 1)), (by first | rfl | (simp; done) | (simp [*]; done)), H', ⟨by have := HK1.out; have := HJ1.out; omega⟩, by repeat (first | exact Drawn0.refl _ | apply Drawn0.step)⟩
              · rw [if_neg c6] at H
                exact absurd H (by simp)
            · rw [if_neg c5] at H
              exact absurd H (by simp)
          · replace c4 := Bool.eq_false_iff.mpr c4
            subst c4
            have H1 : (some (decide ((l0.length : Int) > 300))) = some r := by rw [if_neg (show ¬ (false = true) by decide)] at H; exact H
            clear H
            have H := H1
            clear H1
            obtain rfl := Option.some.inj H
            go_wp2
            go_ret
            exact ⟨by first | rfl | (simp; done) | (simp [*]; done), by repeat (first | exact Drawn0.refl _ | apply Drawn0.step)⟩

end Go.Proofs.Ytekgienbhpknlaa.PL
end
section
namespace Go.Proofs.Ytekgienbhpknlaa.Q
open Go Go.RowKit Go.Proofs.Ytekgienbhpknlaa.PL Go.Proofs.Ytekgienbhpknlaa.G Go.Proofs.YtekgienbhpknlaaW.PrintWords Go.Proofs.YtekgienbhpknlaaW.PrintLast Go.Proofs.YtekgienbhpknlaaW.PrintMore
abbrev S := S40
instance : DecidableEq S := fun a b => match a, b with
  | ⟨x, l⟩, ⟨y, m⟩ => if h : x = y ∧ l = m then .isTrue (by rw [h.1, h.2]) else .isFalse (fun e => h (by injection e with e1 e2; exact ⟨e1, e2⟩))
theorem rd_T (l : List S) (i : Nat) (h : i < l.length) : rd_T40 l (i : Int) = l[i] := by
  simp [rd_T40, h]

/-! ### rows of fields that are the same -/
theorem same17_l0 (a b : List S) (hab : a.length = b.length) (M : Nat) (hM : M ≤ 9223372036854775806) (hlen : a.length ≤ 9223372036854775806) (hv : ∀ x ∈ a, x.f1.length ≤ M) (d : Nat) :
    ∀ (k i : Nat), a.length - i = d → i ≤ a.length → d + M + 1 < k → gatelineref17_Same.l0 k a b (i : Int) = some (decide (a.drop i = b.drop i)) := by
  induction d with
  | zero =>
    intro k i hd hi hk
    obtain ⟨k, rfl⟩ : ∃ m, k = m + 1 := ⟨k - 1, by omega⟩
    have : i = a.length := by omega
    subst this
    rw [gatelineref17_Same.l0, if_neg (by omega)]
    simp [hab]
  | succ d ih =>
    intro k i hd hi hk
    obtain ⟨k, rfl⟩ : ∃ m, k = m + 1 := ⟨k - 1, by omega⟩
    have hlt : i < a.length := by omega
    have hlt' : i < b.length := by omega
    have c1 : (i : Int) < (a.length : Int) := by omega
    have c2 : (0 : Int) ≤ (i : Int) := by omega
    have c3 : (i : Int) < (b.length : Int) := by omega
    have hvi := hv a[i] (List.getElem_mem hlt)
    have hs : gatelineref01_Same.f k (a[i]).f1 (b[i]).f1 = some (decide ((a[i]).f1 = (b[i]).f1)) := by
      unfold gatelineref01_Same.f
      by_cases h : (a[i]).f1.length = (b[i]).f1.length
      · rw [if_pos (by omega)]
        have := same_gen (L := gatelineref01_Same.l0) (fun _ _ _ _ => rfl) (a[i]).f1 (b[i]).f1 h (by omega) (a[i]).f1.length k 0 (by omega) (by omega) (by omega)
        simpa using this
      · rw [if_neg (by omega)]
        congr 1
        exact (decide_eq_false (fun e => h (by rw [e]))).symm
    rw [gatelineref17_Same.l0, if_pos c1, if_pos c2, if_pos c3, rd_T a i hlt, rd_T b i hlt', hs, Option.bind_some, List.drop_eq_getElem_cons hlt, List.drop_eq_getElem_cons hlt', w64_succ i (by omega)]
    have e := ih k (i + 1) (by omega) (by omega) (by omega)
    rw [e]
    have hx : (a[i] = b[i]) ↔ (a[i]).f0 = (b[i]).f0 ∧ (a[i]).f1 = (b[i]).f1 := by
      cases a[i]; cases b[i]; simp
    by_cases h0 : (a[i]).f0 = (b[i]).f0
    · rw [if_pos h0]
      by_cases h1 : (a[i]).f1 = (b[i]).f1
      · rw [if_pos (decide_eq_true h1)]
        congr 1
        simp only [List.cons.injEq, hx.2 ⟨h0, h1⟩, true_and]
      · rw [if_neg (by simp [h1])]
        simp only [List.cons.injEq, hx, h1, and_false, false_and, decide_false]
    · rw [if_neg h0]
      simp only [List.cons.injEq, hx, h0, false_and, decide_false]
theorem same17_ev (a b : List S) (M : Nat) (hM : M ≤ 9223372036854775806) (hlen : a.length ≤ 9223372036854775806) (hv : ∀ x ∈ a, x.f1.length ≤ M) : Ev (fun k => gatelineref17_Same.f k a b) (decide (a = b)) := by
  refine ⟨a.length + M + 2, fun k hk => ?_⟩
  show gatelineref17_Same.f k a b = _
  unfold gatelineref17_Same.f
  by_cases h : a.length = b.length
  · rw [if_pos (by omega)]
    have := same17_l0 a b h M hM hlen hv a.length k 0 (by omega) (by omega) (by omega)
    simpa using this
  · rw [if_neg (by omega)]
    congr 1
    exact (decide_eq_false (fun e => h (by rw [e]))).symm

/-! ### fields that are right -/
def isG : Int → List S → Bool
  | _, [] => true
  | last, f :: l => if f.f0 ≤ last ∨ f.f0 > 255 ∨ f.f1.length > 255 then false else isG f.f0 l
theorem isG_length : ∀ (l : List S) (last : Int), 0 ≤ last → last ≤ 255 → isG last l = true → (l.length : Int) ≤ 255 - last
  | [], last, _, h1, _ => by simp; omega
  | f :: l, last, h0, h1, h => by
    unfold isG at h
    split at h
    · cases h
    · rename_i hn
      have := isG_length l f.f0 (by omega) (by omega) h
      rw [List.length_cons]
      omega
theorem isG_values : ∀ (l : List S) (last : Int), isG last l = true → ∀ x ∈ l, last < x.f0 ∧ x.f0 ≤ 255 ∧ x.f1.length ≤ 255
  | [], _, _, x, hx => by cases hx
  | f :: l, last, h, x, hx => by
    unfold isG at h
    split at h
    · cases h
    · rename_i hn
      rcases List.mem_cons.1 hx with rfl | hx
      · omega
      · have := isG_values l f.f0 h x hx
        omega
theorem is_l0 (l : List S) (hlen : l.length ≤ 9223372036854775806) (d : Nat) : ∀ (k i : Nat) (last : Int), l.length - i = d → i ≤ l.length → d < k → tlv_Is.l0 k last l (l.length : Int) (i : Int) = some (isG last (l.drop i)) := by
  induction d with
  | zero =>
    intro k i last hd hi hk
    obtain ⟨k, rfl⟩ : ∃ m, k = m + 1 := ⟨k - 1, by omega⟩
    have : i = l.length := by omega
    subst this
    rw [tlv_Is.l0, if_neg (by omega), List.drop_length]
    rfl
  | succ d ih =>
    intro k i last hd hi hk
    obtain ⟨k, rfl⟩ : ∃ m, k = m + 1 := ⟨k - 1, by omega⟩
    have hlt : i < l.length := by omega
    have c1 : (i : Int) < (l.length : Int) := by omega
    have c2 : (0 : Int) ≤ (i : Int) := by omega
    rw [tlv_Is.l0, if_pos c1, if_pos c2, if_pos c1, rd_T l i hlt, w64_succ i (by omega), ih k (i + 1) _ (by omega) (by omega) (by omega), List.drop_eq_getElem_cons hlt, isG]
    by_cases h1 : (l[i]).f0 ≤ last
    · rw [if_pos h1, if_pos (.inl h1)]
    · rw [if_neg h1]
      by_cases h2 : (l[i]).f0 > 255
      · rw [if_pos h2, if_pos (.inr (.inl h2))]
      · rw [if_neg h2]
        by_cases h3 : (l[i]).f1.length > 255
        · rw [if_pos (by omega), if_pos (.inr (.inr h3))]
        · rw [if_neg (by omega), if_neg (by omega)]
theorem is_ev (l : List S) (hlen : l.length ≤ 9223372036854775806) : Ev (fun k => tlv_Is.f k l) (isG 0 l) := by
  refine ⟨l.length + 1, fun k hk => ?_⟩
  show tlv_Is.f k l = _
  unfold tlv_Is.f
  have := is_l0 l hlen l.length k 0 0 (by omega) (by omega) (by omega)
  simpa using this
def before (l : List S) (i : Nat) : Int := if i = 0 then 0 else (l.getD (i - 1) ⟨0, []⟩).f0
theorem refIs_l0 (l : List S) (hlen : l.length ≤ 9223372036854775806) (d : Nat) : ∀ (k i : Nat), l.length - i = d → i ≤ l.length → d < k → 0 ≤ before l i → gatelineref17_Is.l0 k l (i : Int) = some (isG (before l i) (l.drop i)) := by
  induction d with
  | zero =>
    intro k i hd hi hk _
    obtain ⟨k, rfl⟩ : ∃ m, k = m + 1 := ⟨k - 1, by omega⟩
    have : i = l.length := by omega
    subst this
    rw [gatelineref17_Is.l0, if_neg (by omega), List.drop_length]
    rfl
  | succ d ih =>
    intro k i hd hi hk hb
    obtain ⟨k, rfl⟩ : ∃ m, k = m + 1 := ⟨k - 1, by omega⟩
    have hlt : i < l.length := by omega
    have c1 : (i : Int) < (l.length : Int) := by omega
    have c2 : (0 : Int) ≤ (i : Int) := by omega
    have hbn : before l (i + 1) = (l[i]).f0 := by simp [before, hlt]
    rw [gatelineref17_Is.l0, if_pos c1, if_pos c2, rd_T l i hlt, w64_succ i (by omega), List.drop_eq_getElem_cons hlt, isG]
    by_cases h1 : (l[i]).f0 < 1
    · rw [if_pos h1, if_pos (.inl (by omega))]
    · rw [if_neg h1]
      by_cases h2 : (l[i]).f0 > 255
      · rw [if_pos h2, if_pos (.inr (.inl h2))]
      · rw [if_neg h2]
        by_cases h3 : (l[i]).f1.length > 255
        · rw [if_pos (by omega), if_pos (.inr (.inr h3))]
        · rw [if_neg (by omega)]
          have e := ih k (i + 1) (by omega) (by omega) (by omega) (by rw [hbn]; omega)
          rw [hbn] at e
          by_cases h4 : (i : Int) > 0
          · have e1 : wrap64 ((i : Int) - 1) = ((i - 1 : Nat) : Int) := by rw [w64 (by omega) (by omega)]; omega
            have hlt2 : i - 1 < l.length := by omega
            have hbi : before l i = (l[i - 1]).f0 := by
              have : i ≠ 0 := by omega
              simp [before, this, hlt2]
            rw [if_pos h4, e1, if_pos (by omega), if_pos (by omega), rd_T l (i - 1) hlt2, ← hbi]
            by_cases h5 : (l[i]).f0 ≤ before l i
            · rw [if_pos h5, if_pos (.inl h5)]
            · rw [if_neg h5, if_neg (by omega), e]
          · have : i = 0 := by omega
            subst this
            rw [if_neg h4, e, if_neg (by simp [before]; omega)]
theorem refIs_ev (l : List S) (hlen : l.length ≤ 9223372036854775806) : Ev (fun k => gatelineref17_Is.f k l) (isG 0 l) := by
  refine ⟨l.length + 1, fun k hk => ?_⟩
  show gatelineref17_Is.f k l = _
  unfold gatelineref17_Is.f
  have := refIs_l0 l hlen l.length k 0 (by omega) (by omega) (by omega) (by simp [before])
  simpa [before] using this
end Go.Proofs.Ytekgienbhpknlaa.Q
end
section
namespace Go.Proofs.Ytekgienbhpknlaa.G
open Go Go.RowKit Go.Proofs.YtekgienbhpknlaaW.PrintWords Go.Proofs.YtekgienbhpknlaaW.PrintLast Go.Proofs.YtekgienbhpknlaaW.PrintMore
/-- A row of words as cells. -/
def wordsA (l : List Int) : Array Value := (l.map (Value.int .u32)).toArray
def bytesA (l : List Int) : Array Value := (l.map (Value.int .u8)).toArray
theorem wordsA_at (l : List Int) (i : Nat) (h : i < l.length) : (wordsA l)[i]? = some (.int .u32 (l.getD i 0)) := by
  simp [wordsA, h]
theorem bytesA_at (l : List Int) (i : Nat) (h : i < l.length) : (bytesA l)[i]? = some (.int .u8 (l.getD i 0)) := by
  simp [bytesA, h]
theorem wordsA_set (l : List Int) (i : Nat) (v : Int) : (wordsA l).setIfInBounds i (.int .u32 v) = wordsA (l.set i v) := by
  simp [wordsA]
theorem bytesA_set (l : List Int) (i : Nat) (v : Int) : (bytesA l).setIfInBounds i (.int .u8 v) = bytesA (l.set i v) := by
  simp [bytesA]
theorem Blk.put {W : World} {b : Nat} {cs cs' : Array Value} {t : TypeId} (h : Blk W b cs t) (i : Nat) (u : Value) (e : cs.setIfInBounds i u = cs') : Blk (W.setCell ⟨b, i, none⟩ u) b cs' t := blk_put h i u e
theorem Blk.far {W : World} {b : Nat} {cs : Array Value} {t : TypeId} (h : Blk W b cs t) {p : Addr} (hp : b ≠ p.block) (u : Value) : Blk (W.setCell p u) b cs t := blk_far h hp u
theorem Blk.drewN {W : World} {b : Nat} {cs : Array Value} {t : TypeId} (h : Blk W b cs t) (n : Nat) : Blk (W.drewN n) b cs t := h
section
variable {P : Program}
theorem wpList_build_as {ops : Array Oper} {rest : List Oper} {o : Oper} {a : Act} {w : World} {Q : Exit → Act → World → Prop} (hg : o.guard = none) (t : TypeId) (parts : Array (Nat × Operand)) (ho : o.op = .build t parts) (cs : Array Value)
    (hf : P.built t (parts.map fun (i, x) => (i, a.eval x)).toList = some cs) (h : wpList P ops Q rest (a.put o.dst (.agg cs)) w) : wpList P ops Q (o :: rest) a w :=
  wpList_build hg t parts ho (by rw [hf]; rfl) (by rw [hf]; exact h)
end
theorem Blk.setRow {W : World} {b : Nat} {cs : Array Value} {t : TypeId} (h : Blk W b cs t) (cs' : Array Value) : Blk (W.setRow b cs') b cs' t := setRow_heap W b cs cs' t _ h
theorem Blk.grown {W W' : World} {b g : Nat} {cs : Array Value} {t : TypeId} (h : Blk W b cs t) (hg : W.grownBy W' (some g)) (hn : b ≠ g) : Blk W' b cs t := blk_grown h hg (fun e => hn (Option.some.inj e))
theorem below_grown {W W' w : World} {B g : Nat} (h : Below B w W) (hg : W.grownBy W' (some g)) (hB : B ≤ g) (hs : B ≤ W.heap.size) : Below B w W' :=
  h.trans ⟨hg.os, hg.tape, hg.output, hg.size, fun k hk => hg.block k (by omega) (fun e => by have := Option.some.inj e; omega)⟩
theorem grown_setRow (W : World) (g : Nat) (cs : Array Value) : W.grownBy (W.setRow g cs) (some g) := ⟨rfl, rfl, rfl, by simp, fun k _ hk => setRow_other W g k cs (fun e => hk (by rw [e]))⟩
section
variable {P : Program}
/-- A whole array is stored into a block that is known whole. -/
theorem wpList_store_blk {ops : Array Oper} {rest : List Oper} {o : Oper} {a : Act} {w : World} {Q : Exit → Act → World → Prop} (hgd : o.guard = none) (ty : TypeId) (x y : Operand) (ho : o.op = .store ty x y)
    (g : Nat) (cells : Array Value) (hx : a.eval x = .pointer (some ⟨g, 0, none⟩)) (hy : a.eval y = .agg cells)
    (t : TypeId) (old : Array Value) (hg : Blk w g old t) (hi : (P.info? ty).map (·.size) = some cells.size)
    (hold : old.size = cells.size) (h1 : cells.all (·.oneCell') = true)
    (h : ∀ W', Blk W' g cells t → w.grownBy W' (some g) → wpList P ops Q rest (a.put o.dst undef) W') : wpList P ops Q (o :: rest) a w :=
  wpList_store_row hgd ty x y ho g cells hx hy t old hg hi hold h1 (h _ (Blk.setRow hg cells) (grown_setRow w g cells))
/-- A whole array is loaded out of a block that is known whole. -/
theorem wpList_load_blk {ops : Array Oper} {rest : List Oper} {o : Oper} {a : Act} {w : World} {Q : Exit → Act → World → Prop} (hgd : o.guard = none) (ty : TypeId) (x : Operand) (ho : o.op = .load ty x)
    (g : Nat) (hx : a.eval x = .pointer (some ⟨g, 0, none⟩)) (t : TypeId) (cs : Array Value) (n : Nat) (e : TypeId) (hg : Blk w g cs t)
    (hu : P.underlying ty = some (.array n e)) (hi : (P.info? ty).map (·.size) = some cs.size)
    (h : wpList P ops Q rest (a.put o.dst (.agg cs)) w) : wpList P ops Q (o :: rest) a w :=
  wpList_load_row hgd ty x ho g hx t cs (0, 0) _ hg hu rfl hi h
end
theorem words_size (l : List Int) : (wordsA l).size = l.length := by simp [wordsA]
theorem bytes_size (l : List Int) : (bytesA l).size = l.length := by simp [bytesA]
theorem words_one (l : List Int) : (wordsA l).all (·.oneCell') = true := by simp [wordsA]; intro x _; rfl
theorem bytes_one (l : List Int) : (bytesA l).all (·.oneCell') = true := by simp [bytesA]; intro x _; rfl
end Go.Proofs.Ytekgienbhpknlaa.G
end
section
set_option linter.unusedVariables false
namespace Go.Proofs.Ytekgienbhpknlaa.G
open Go Go.RowKit Go.Proofs.YtekgienbhpknlaaW.PrintWords Go.Proofs.YtekgienbhpknlaaW.PrintLast Go.Proofs.YtekgienbhpknlaaW.PrintMore Go.Proofs.Ytekgienbhpknlaa.PL Go.Proofs.Ytekgienbhpknlaa.Q
attribute [local go_sem] max2_int min2_int max_two min_two max_three min_three max_four min_four
abbrev SF := S40
def intsA (l : List Int) : Array Value := (l.map (Value.int .i64)).toArray
def z15 : List Int := List.replicate 15 0
/-- A reading's ticket is right, or not. -/
def isC (c : List Int) : Bool := isB (c.getD 0 0) (c.getD 1 0) (c.getD 2 0) (c.getD 3 0) (c.getD 4 0) (c.getD 5 0) (c.getD 6 0) (c.getD 7 0) (c.getD 8 0) (c.getD 9 0) (c.getD 10 0)
def finT (c : List Int) : List Int × Int := if 100 ≤ c.getD 11 0 then (z15, 9) else if isC c = true then (c, 0) else (z15, 9)
def finR (c : List Int) (least : Int) : List Int × Int :=
  if c.getD 14 0 < least then (z15, 12) else if 3 < c.getD 14 0 then (z15, 12) else
  if c.getD 1 0 = 4 then finT c else if c.getD 9 0 = 0 then finT (c.set 9 (Int.tmod (c.getD 1 0) 3)) else (z15, 9)
def fgL : List SF → List Int → Int → List Int × Int
  | [], c, least => finR c least
  | f :: fs, c, least => if 128 ≤ f.f0 then (z15, 16) else if f.f0 < 1 ∨ 13 < f.f0 then (z15, 15) else if (valR f.f1).2 = 0 then fgL fs (c.set (offT f.f0) (valR f.f1).1) (mx least (verT f.f0)) else (z15, (valR f.f1).2)
def fgetR (l : List SF) : List Int × Int := if isG 0 l = true then fgL l z15 1 else (z15, 1)
theorem intsA_at (l : List Int) (i : Nat) (h : i < l.length) : (intsA l)[i]? = some (.int .i64 (l.getD i 0)) := by simp [intsA, h]
theorem intsA_set (l : List Int) (i : Nat) (v : Int) : (intsA l).setIfInBounds i (.int .i64 v) = intsA (l.set i v) := by simp [intsA]
theorem offT_lt (tag : Int) (h1 : 1 ≤ tag) (h2 : tag ≤ 13) : offT tag < 15 := by
  have : tag = 1 ∨ tag = 2 ∨ tag = 3 ∨ tag = 4 ∨ tag = 5 ∨ tag = 6 ∨ tag = 7 ∨ tag = 8 ∨ tag = 9 ∨ tag = 10 ∨ tag = 11 ∨ tag = 12 ∨ tag = 13 := by omega
  rcases this with rfl | rfl | rfl | rfl | rfl | rfl | rfl | rfl | rfl | rfl | rfl | rfl | rfl <;> decide
theorem list15 {l : List Int} (h : l.length = 15) : ∃ v0 v1 v2 v3 v4 v5 v6 v7 v8 v9 v10 v11 v12 v13 v14, l = [v0, v1, v2, v3, v4, v5, v6, v7, v8, v9, v10, v11, v12, v13, v14] := by
  match l, h with
  | [v0, v1, v2, v3, v4, v5, v6, v7, v8, v9, v10, v11, v12, v13, v14], _ => exact ⟨v0, v1, v2, v3, v4, v5, v6, v7, v8, v9, v10, v11, v12, v13, v14, rfl⟩
theorem tlvis_any (A0 : Option Addr) (c0 : Nat) (l0 : List SF) (w : World) (hr : Kd.C k40 w A0 l0.length l0) (hc : l0.length ≤ c0) (hl : l0.length ≤ 9223372036854775806) :
    Calls Try.prog 19 #[.slice A0 l0.length c0] w fun e w' => e = .returned (.bool (isG 0 l0)) ∧ Below w.heap.size w w' := by
  obtain ⟨K, h⟩ := is_ev l0 hl
  exact tlv_Is.calls K A0 c0 l0 _ w hr hc (h K (Nat.le_refl _))
end Go.Proofs.Ytekgienbhpknlaa.G
end
section
set_option linter.unusedVariables false
namespace Go.Proofs.Ytekgienbhpknlaa.G
open Go Go.RowKit Go.Proofs.YtekgienbhpknlaaW.PrintWords Go.Proofs.YtekgienbhpknlaaW.PrintLast Go.Proofs.YtekgienbhpknlaaW.PrintMore Go.Proofs.Ytekgienbhpknlaa.PL Go.Proofs.Ytekgienbhpknlaa.Q
attribute [local go_sem] max2_int min2_int max_two min_two max_three min_three max_four min_four
theorem results_row_tmp {P : Program} {fn : Func} {p u : Tmp} {ty : TypeId} (h : fn.results = #[.cell p ty, .tmp u]) (tmps : Array Value) (w : World) (g : Nat) (t : TypeId) (cs : Array Value) (d : TypeDesc)
    (hp : tmps.getD p undef = .pointer (some ⟨g, 0, none⟩)) (hg : Blk w g cs t) (hu : P.underlying ty = some d) (hd : (match d with | .struct _ | .array _ _ => true | _ => false) = true) (hi : (P.info? ty).map (·.size) = some cs.size) :
    (results fn tmps).run P w = .ok (.tuple #[.agg cs, tmps.getD u undef]) w := by
  rw [results_cell_tmp h, hp]
  simp [asAddr, run_loadVar_row w g t ty cs (0, 0) d hg hu hd hi]
theorem wpList_load_str {P : Program} {ops : Array Oper} {rest : List Oper} {o : Oper} {a : Act} {w : World} {Q : Exit → Act → World → Prop} (hgd : o.guard = none) (ty : TypeId) (x : Operand) (ho : o.op = .load ty x)
    (g : Nat) (hx : a.eval x = .pointer (some ⟨g, 0, none⟩)) (t : TypeId) (cs : Array Value) (fs : Array Field) (hg : Blk w g cs t)
    (hu : P.underlying ty = some (.struct fs)) (hi : (P.info? ty).map (·.size) = some cs.size)
    (h : wpList P ops Q rest (a.put o.dst (.agg cs)) w) : wpList P ops Q (o :: rest) a w :=
  wpList_load_row hgd ty x ho g hx t cs (0, 0) _ hg hu rfl hi h
theorem below_put {B g i : Nat} {u : Value} {w W : World} (h : Below B w W) (hB : B ≤ g) (hs : B ≤ W.heap.size) : Below B w (W.setCell ⟨g, i, none⟩ u) :=
  below_grown h ⟨rfl, rfl, rfl, by simp, fun k _ hk => Below.heap_setCell W ⟨g, i, none⟩ u k (fun e => hk (by rw [e]))⟩ hB hs
theorem field_one (x : Int) (A : Option Addr) (n c : Nat) : (#[.int .i64 x, .slice A n c] : Array Value).all (·.oneCell') = true := by simp; exact ⟨rfl, rfl⟩
theorem ints_size (l : List Int) : (intsA l).size = l.length := by simp [intsA]
theorem ints_one (l : List Int) : (intsA l).all (·.oneCell') = true := by simp [intsA]; intro x _; rfl
set_option maxRecDepth 100000 in
set_option maxHeartbeats 8000000 in
theorem fget_no (A : Option Addr) (cap : Nat) (l : List SF) (w : World) (hr : Kd.C k40 w A l.length l) (hc : l.length ≤ cap) (hlen : l.length ≤ 9223372036854775806) (hG : isG 0 l = false) :
    Calls Try.prog 33 #[.slice A l.length cap] w fun e w' => e = .returned (.tuple #[.agg (intsA (fgetR l).1), .int .i64 (fgetR l).2]) ∧ Below w.heap.size w w' := by
  obtain ⟨R, hR⟩ : ∃ R, R = fgetR l := ⟨_, rfl⟩
  rw [← hR]
  have HR0 := Aside0.mk hR
  have HR := Aside0.mk hr
  have HC := Aside0.mk hc
  have HLEN := Aside0.mk hlen
  clear hR hr hc hlen
  go_enter Try.func33, Try.ntmps33
  go_upto_region 1 with (first | (fail))
  have g2 : Blk (w.alloc (.cells #[.int .i64 0, .int .i64 0, .int .i64 0, .int .i64 0, .int .i64 0, .int .i64 0, .int .i64 0, .int .i64 0, .int .i64 0, .int .i64 0, .int .i64 0, .int .i64 0, .int .i64 0, .int .i64 0, .int .i64 0] 46)) w.heap.size (intsA z15) 46 := Blk.new w #[.int .i64 0, .int .i64 0, .int .i64 0, .int .i64 0, .int .i64 0, .int .i64 0, .int .i64 0, .int .i64 0, .int .i64 0, .int .i64 0, .int .i64 0, .int .i64 0, .int .i64 0, .int .i64 0, .int .i64 0] 46
  have gb := below_alloc (Below.refl w.heap.size w) (.cells #[.int .i64 0, .int .i64 0, .int .i64 0, .int .i64 0, .int .i64 0, .int .i64 0, .int .i64 0, .int .i64 0, .int .i64 0, .int .i64 0, .int .i64 0, .int .i64 0, .int .i64 0, .int .i64 0, .int .i64 0] 46)
  obtain ⟨n2, hn2⟩ : ∃ n, n = w.heap.size := ⟨_, rfl⟩
  have HN0 := Aside0.mk hn2
  generalize w.alloc (.cells #[.int .i64 0, .int .i64 0, .int .i64 0, .int .i64 0, .int .i64 0, .int .i64 0, .int .i64 0, .int .i64 0, .int .i64 0, .int .i64 0, .int .i64 0, .int .i64 0, .int .i64 0, .int .i64 0, .int .i64 0] 46) = U0 at *
  rw [← hn2] at g2 gb ⊢
  clear hn2
  have G2 := Aside0.mk g2
  have GB := Aside0.mk gb
  clear g2 gb
  go_wp2_with (first
    | (go_at_call 19; refine (tlvis_any A cap l _ (Kd.C_below HR.out (by rw [← HN0.out]; exact GB.out)) HC.out HLEN.out).mono ?_; rintro e w1 ⟨rfl, hb1⟩; rw [hG]
       have K2 := Aside0.mk (G2.out.below hb1 G2.out.lt)
       have KB := Aside0.mk (GB.out.trans (hb1.mono (Nat.le_of_lt G2.out.lt)))
       clear hb1 G2 GB)
    | (refine wpList_build_as rfl 46 _ rfl (intsA z15) (by as_aux_lemma => kernel_rfl) ?_)
    | (refine wpList_store_blk rfl 46 (.tmp 2) (.tmp 16) rfl n2 (intsA z15) rfl rfl 46 _ K2.out (by kernel_rfl) (by kernel_rfl) (by kernel_rfl) ?_; intro w9 hv hg; have gb := Aside0.mk (below_grown KB.out hg (Nat.le_refl _) (by have := (K2.out).lt; omega)); have gv := Aside0.mk hv; clear hv hg))
  refine bodyPost_ret (v := .tuple #[.agg (intsA z15), .int .i64 1]) (results_row_tmp (fn := Try.f33) (p := 2) (u := 3) (by rfl) _ _ n2 46 _ _ (by rfl) gv.out Try.underlying46 rfl (by kernel_rfl)) rfl ⟨by rw [HR0.out, fgetR, hG]; rfl, by rw [← HN0.out]; exact gb.out⟩
set_option maxRecDepth 100000 in
set_option maxHeartbeats 8000000 in
theorem fget_yes (A : Option Addr) (cap : Nat) (l : List SF) (w : World) (hr : Kd.C k40 w A l.length l) (hc : l.length ≤ cap) (hlen : l.length ≤ 9223372036854775806) (hby : ∀ f ∈ l, IsBytes f.f1) (hG : isG 0 l = true) :
    Calls Try.prog 33 #[.slice A l.length cap] w fun e w' => e = .returned (.tuple #[.agg (intsA (fgetR l).1), .int .i64 (fgetR l).2]) ∧ Below w.heap.size w w' := by
  obtain ⟨R, hR⟩ : ∃ R, R = fgetR l := ⟨_, rfl⟩
  rw [← hR]
  have HR0 : Aside0 (fgL l z15 1 = R) := ⟨by rw [hR, fgetR, if_pos hG]⟩
  have HR := Aside0.mk hr
  have HC := Aside0.mk hc
  have HLEN := Aside0.mk hlen
  have HBY := Aside0.mk hby
  clear hR hr hc hlen hby
  go_enter Try.func33, Try.ntmps33
  go_upto_region 1 with (first | (fail))
  have g2 : Blk (w.alloc (.cells #[.int .i64 0, .int .i64 0, .int .i64 0, .int .i64 0, .int .i64 0, .int .i64 0, .int .i64 0, .int .i64 0, .int .i64 0, .int .i64 0, .int .i64 0, .int .i64 0, .int .i64 0, .int .i64 0, .int .i64 0] 46)) w.heap.size (intsA z15) 46 := Blk.new w #[.int .i64 0, .int .i64 0, .int .i64 0, .int .i64 0, .int .i64 0, .int .i64 0, .int .i64 0, .int .i64 0, .int .i64 0, .int .i64 0, .int .i64 0, .int .i64 0, .int .i64 0, .int .i64 0, .int .i64 0] 46
  have gb := below_alloc (Below.refl w.heap.size w) (.cells #[.int .i64 0, .int .i64 0, .int .i64 0, .int .i64 0, .int .i64 0, .int .i64 0, .int .i64 0, .int .i64 0, .int .i64 0, .int .i64 0, .int .i64 0, .int .i64 0, .int .i64 0, .int .i64 0, .int .i64 0] 46)
  obtain ⟨n2, hn2⟩ : ∃ n, n = w.heap.size := ⟨_, rfl⟩
  have HN0 := Aside0.mk hn2
  generalize w.alloc (.cells #[.int .i64 0, .int .i64 0, .int .i64 0, .int .i64 0, .int .i64 0, .int .i64 0, .int .i64 0, .int .i64 0, .int .i64 0, .int .i64 0, .int .i64 0, .int .i64 0, .int .i64 0, .int .i64 0, .int .i64 0] 46) = U0 at *
  rw [← hn2] at g2 gb ⊢
  clear hn2
  have G2 := Aside0.mk g2
  have GB := Aside0.mk gb
  clear g2 gb
  go_wp2_with (first
    | (go_at_call 19; refine (tlvis_any A cap l _ (Kd.C_below HR.out (by rw [← HN0.out]; exact GB.out)) HC.out HLEN.out).mono ?_; rintro e w1 ⟨rfl, hb1⟩; rw [hG]
       have K2 := Aside0.mk (G2.out.below hb1 G2.out.lt)
       have KB := Aside0.mk (GB.out.trans (hb1.mono (Nat.le_of_lt G2.out.lt)))
       clear hb1 G2 GB)
    | (refine wpList_build_as rfl 65 _ rfl (intsA z15) (by as_aux_lemma => kernel_rfl) ?_))
  have k4 : Blk (w1.alloc (.cells (intsA z15) 65)) w1.heap.size (intsA z15) 65 := Blk.new w1 _ _
  have k2 := K2.out.alloc (.cells (intsA z15) 65)
  have kb := KB.out.alloc (Nat.le_of_lt K2.out.lt) (.cells (intsA z15) 65)
  obtain ⟨n4, hn4⟩ : ∃ n, n = w1.heap.size := ⟨_, rfl⟩
  have HN : Aside0 (n2 < n4) := ⟨by rw [hn4]; exact K2.out.lt⟩
  generalize w1.alloc (.cells (intsA z15) 65) = U1 at *
  rw [← hn4] at k4 ⊢
  clear hn4 K2 KB
  have K4 := Aside0.mk k4
  have K2 := Aside0.mk k2
  have KB := Aside0.mk kb
  clear k4 k2 kb
  go_loopw [5, 21] (fun v5 v21 wr => ∃ (x : Int) (c : List Int) (least : Int), v21 = .int .i64 x ∧ v5 = .int .i64 least ∧ 0 ≤ x ∧ Aside0 (x ≤ l.length) ∧ Aside0 (c.length = 15) ∧ Aside0 (fgL (l.drop x.toNat) c least = R) ∧ Aside0 (Blk wr n2 (intsA z15) 46) ∧ Aside0 (Blk wr n4 (intsA c) 65) ∧ Aside0 (Below n2 w wr)) (fun _ v21 _ => l.length - (intOf v21).toNat)
  case atStart => exact ⟨0, z15, 1, rfl, rfl, Int.le_refl _, ⟨by omega⟩, ⟨by decide⟩, ⟨by simpa using HR0.out⟩, K2, K4, KB⟩
  case round =>
    clear HR0 K2 K4 KB
    obtain ⟨x, c, least, rfl, rfl, hx0, HI, HCL, HF, K2, K4, KB⟩ := hrel
    by_cases hx1 : x < l.length
    · obtain ⟨ad, A1, c1, eA, q0, q1, hl1, hC1⟩ := at_T40 HR.out x hx0 hx1
      have hfl : l.drop x.toNat = rd_T40 l x :: l.drop (x.toNat + 1) := by
        rw [List.drop_eq_getElem_cons (show x.toNat < l.length by omega)]
        simp [rd_T40, List.getD_eq_getElem?_getD, show x.toNat < l.length by omega]
      have hfm : rd_T40 l x ∈ l := by
        have : x.toNat < l.length := by omega
        simp only [rd_T40, List.getD_eq_getElem?_getD, List.getElem?_eq_getElem this, Option.getD_some]
        exact List.getElem_mem _
      have hF := HF.out
      rw [hfl] at hF
      generalize rd_T40 l x = f at *
      have hbf := HBY.out f hfm
      subst eA
      have b0 : wr.cell? (ad.add (x.toNat * 2)) = some (.int .i64 f.f0) := (KB.out.cell (by rw [HN0.out]; exact World.block_lt_of_cell? w _ q0)).trans q0
      have b1 : wr.cell? ⟨(ad.add (x.toNat * 2)).block, (ad.add (x.toNat * 2)).off + 1, none⟩ = some (.slice A1 f.f1.length c1) := (KB.out.cell (by rw [HN0.out]; exact World.block_lt_of_cell? w _ q1)).trans q1
      have HL1 := Aside0.mk hl1
      have HC1 := Aside0.mk hC1
      have HNF : Aside0 (n4 < wr.heap.size) := ⟨K4.out.lt⟩
      have hxw : x ≤ 9223372036854775805 := by have := HLEN.out; omega
      rw [fgL] at hF
      clear q0 q1 hl1 hC1 hfm hfl HF
      by_cases t1 : 128 ≤ f.f0
      · rw [if_pos t1] at hF
        have HFF := Aside0.mk hF
        clear hF
        go_wp2_with (first
          | (refine wpList_store_blk rfl 40 (.tmp 7) (.tmp 24) rfl wr.heap.size #[.int .i64 f.f0, .slice A1 f.f1.length c1] rfl rfl 40 _ (Blk.new wr _ _) (by kernel_rfl) rfl (field_one _ _ _ _) ?_; intro w5 hv5 hg5; have L2 := Aside0.mk ((K2.out.alloc _).grown hg5 (by have := K2.out.lt; omega)); have L4 := Aside0.mk ((K4.out.alloc _).grown hg5 (by have := K4.out.lt; omega)); have LB := Aside0.mk (below_grown (KB.out.alloc (Nat.le_of_lt K2.out.lt) _) hg5 (Nat.le_of_lt K2.out.lt) (by have := K2.out.lt; simp only [World.size_alloc]; omega)); have L5 := Aside0.mk hv5; have c50 : w5.cell? ⟨wr.heap.size, 0, none⟩ = some (.int .i64 f.f0) := hv5.cell 0 _ rfl; have c51 : w5.cell? ⟨wr.heap.size, 1, none⟩ = some (.slice A1 f.f1.length c1) := hv5.cell 1 _ rfl; clear hv5 hg5 K2 KB K4)
          | (go_at_call 40; refine (place_out n4 f.f0 _ (Or.inr (by omega))).mono ?_; rintro e w6 ⟨rfl, hb6⟩; have M2 := Aside0.mk (L2.out.below hb6 L2.out.lt); have M4 := Aside0.mk (L4.out.below hb6 L4.out.lt); have M5 := Aside0.mk (L5.out.below hb6 L5.out.lt); have MB := Aside0.mk (LB.out.trans (hb6.mono (Nat.le_of_lt L2.out.lt))); have c60 : w6.cell? ⟨wr.heap.size, 0, none⟩ = some (.int .i64 f.f0) := M5.out.cell 0 _ rfl; have c61 : w6.cell? ⟨wr.heap.size, 1, none⟩ = some (.slice A1 f.f1.length c1) := M5.out.cell 1 _ rfl; clear hb6 L2 LB L4 L5 c50 c51)
          | (refine wpList_build_as rfl 46 _ rfl (intsA z15) (by as_aux_lemma => kernel_rfl) ?_)
          | (refine wpList_store_blk rfl 46 (.tmp 2) (.tmp 33) rfl n2 (intsA z15) rfl rfl 46 _ M2.out (by kernel_rfl) (by kernel_rfl) (by kernel_rfl) ?_; intro w9 hv hg; have gb := Aside0.mk (below_grown MB.out hg (Nat.le_refl _) (by have := (M2.out).lt; omega)); have gv := Aside0.mk hv; clear hv hg))
        refine bodyPost_ret (v := .tuple #[.agg (intsA z15), .int .i64 16]) (results_row_tmp (fn := Try.f33) (p := 2) (u := 3) (by rfl) _ _ n2 46 _ _ (by rfl) gv.out Try.underlying46 rfl (by kernel_rfl)) rfl ⟨by rw [← HFF.out], by rw [← HN0.out]; exact gb.out⟩
      · rw [if_neg t1] at hF
        by_cases t2 : f.f0 < 1 ∨ 13 < f.f0
        · rw [if_pos t2] at hF
          have HFF := Aside0.mk hF
          have HT2 := Aside0.mk t2
          clear hF t2
          go_wp2_with (first
            | (refine wpList_store_blk rfl 40 (.tmp 7) (.tmp 24) rfl wr.heap.size #[.int .i64 f.f0, .slice A1 f.f1.length c1] rfl rfl 40 _ (Blk.new wr _ _) (by kernel_rfl) rfl (field_one _ _ _ _) ?_; intro w5 hv5 hg5; have L2 := Aside0.mk ((K2.out.alloc _).grown hg5 (by have := K2.out.lt; omega)); have L4 := Aside0.mk ((K4.out.alloc _).grown hg5 (by have := K4.out.lt; omega)); have LB := Aside0.mk (below_grown (KB.out.alloc (Nat.le_of_lt K2.out.lt) _) hg5 (Nat.le_of_lt K2.out.lt) (by have := K2.out.lt; simp only [World.size_alloc]; omega)); have L5 := Aside0.mk hv5; have c50 : w5.cell? ⟨wr.heap.size, 0, none⟩ = some (.int .i64 f.f0) := hv5.cell 0 _ rfl; have c51 : w5.cell? ⟨wr.heap.size, 1, none⟩ = some (.slice A1 f.f1.length c1) := hv5.cell 1 _ rfl; clear hv5 hg5 K2 KB K4)
            | (go_at_call 40; refine (place_out n4 f.f0 _ HT2.out).mono ?_; rintro e w6 ⟨rfl, hb6⟩; have M2 := Aside0.mk (L2.out.below hb6 L2.out.lt); have M4 := Aside0.mk (L4.out.below hb6 L4.out.lt); have M5 := Aside0.mk (L5.out.below hb6 L5.out.lt); have MB := Aside0.mk (LB.out.trans (hb6.mono (Nat.le_of_lt L2.out.lt))); have c60 : w6.cell? ⟨wr.heap.size, 0, none⟩ = some (.int .i64 f.f0) := M5.out.cell 0 _ rfl; have c61 : w6.cell? ⟨wr.heap.size, 1, none⟩ = some (.slice A1 f.f1.length c1) := M5.out.cell 1 _ rfl; clear hb6 L2 LB L4 L5 c50 c51)
            | (refine wpList_build_as rfl 46 _ rfl (intsA z15) (by as_aux_lemma => kernel_rfl) ?_)
            | (refine wpList_store_blk rfl 46 (.tmp 2) (.tmp 37) rfl n2 (intsA z15) rfl rfl 46 _ M2.out (by kernel_rfl) (by kernel_rfl) (by kernel_rfl) ?_; intro w9 hv hg; have gb := Aside0.mk (below_grown MB.out hg (Nat.le_refl _) (by have := (M2.out).lt; omega)); have gv := Aside0.mk hv; clear hv hg))
          refine bodyPost_ret (v := .tuple #[.agg (intsA z15), .int .i64 15]) (results_row_tmp (fn := Try.f33) (p := 2) (u := 3) (by rfl) _ _ n2 46 _ _ (by rfl) gv.out Try.underlying46 rfl (by kernel_rfl)) rfl ⟨by rw [← HFF.out], by rw [← HN0.out]; exact gb.out⟩
        · rw [if_neg t2] at hF
          have u1 : 1 ≤ f.f0 := by omega
          have u2 : f.f0 ≤ 13 := by omega
          have HOF : Aside0 (offT f.f0 < 15) := ⟨offT_lt f.f0 u1 u2⟩
          have HNM : Aside0 (fields_Name.f 9 f.f0 = some (verT f.f0, true)) := ⟨name_f f.f0 u1 u2⟩
          obtain ⟨KV, hKV⟩ := value_ev f.f1 hbf
          have HV : Aside0 (tlv_Value.f KV f.f1 = some ((valR f.f1).1, (valR f.f1).2)) := ⟨hKV KV (Nat.le_refl _)⟩
          generalize (valR f.f1).1 = vn at *
          by_cases t3 : (valR f.f1).2 = 0
          · rw [if_pos t3] at hF
            rw [t3] at HV
            have HFF := Aside0.mk hF
            have U1 := Aside0.mk u1
            have U2 := Aside0.mk u2
            clear hF hKV t3 t2 u1 u2
            go_wp2_with (first
              | (refine wpList_store_blk rfl 40 (.tmp 7) (.tmp 24) rfl wr.heap.size #[.int .i64 f.f0, .slice A1 f.f1.length c1] rfl rfl 40 _ (Blk.new wr _ _) (by kernel_rfl) rfl (field_one _ _ _ _) ?_; intro w5 hv5 hg5; have L2 := Aside0.mk ((K2.out.alloc _).grown hg5 (by have := K2.out.lt; omega)); have L4 := Aside0.mk ((K4.out.alloc _).grown hg5 (by have := K4.out.lt; omega)); have LB := Aside0.mk (below_grown (KB.out.alloc (Nat.le_of_lt K2.out.lt) _) hg5 (Nat.le_of_lt K2.out.lt) (by have := K2.out.lt; simp only [World.size_alloc]; omega)); have L5 := Aside0.mk hv5; have c50 : w5.cell? ⟨wr.heap.size, 0, none⟩ = some (.int .i64 f.f0) := hv5.cell 0 _ rfl; have c51 : w5.cell? ⟨wr.heap.size, 1, none⟩ = some (.slice A1 f.f1.length c1) := hv5.cell 1 _ rfl; clear hv5 hg5 K2 KB K4)
              | (go_at_call 40; refine (place_in n4 f.f0 _ U1.out U2.out).mono ?_; rintro e w6 ⟨rfl, hb6⟩; have M2 := Aside0.mk (L2.out.below hb6 L2.out.lt); have M4 := Aside0.mk (L4.out.below hb6 L4.out.lt); have M5 := Aside0.mk (L5.out.below hb6 L5.out.lt); have MB := Aside0.mk (LB.out.trans (hb6.mono (Nat.le_of_lt L2.out.lt))); have c60 : w6.cell? ⟨wr.heap.size, 0, none⟩ = some (.int .i64 f.f0) := M5.out.cell 0 _ rfl; have c61 : w6.cell? ⟨wr.heap.size, 1, none⟩ = some (.slice A1 f.f1.length c1) := M5.out.cell 1 _ rfl; clear hb6 L2 LB L4 L5 c50 c51)
              | (go_at_call 26; refine (tlv_Value.calls KV A1 c1 f.f1 _ _ _ (Kd.C_below HC1.out (by rw [← HN0.out]; exact MB.out)) HL1.out HV.out).mono ?_; rintro e w7 ⟨rfl, nd, rfl⟩; have P2 := Aside0.mk (M2.out.drewN nd); have P4 := Aside0.mk (M4.out.drewN nd); have P5 := Aside0.mk (M5.out.drewN nd); have PB := Aside0.mk (pw_below_drewN MB.out nd); clear c60 c61 M2 M4 M5 MB; generalize w6.drewN nd = w7 at *; have o0 := P4.out.cell (offT f.f0) _ (intsA_at c _ (by rw [HCL.out]; exact HOF.out)); have o1 := P4.out.frozen (offT f.f0); have c80 : ∀ u, (w7.setCell ⟨n4, offT f.f0, none⟩ u).cell? ⟨wr.heap.size, 0, none⟩ = some (.int .i64 f.f0) := fun u => (P5.out.far (by have := HNF.out; show wr.heap.size ≠ n4; omega) u).cell 0 _ rfl)
              | (go_at_call 30; refine (fields_Name.calls 9 f.f0 _ _ _ HNM.out).mono ?_; rintro e w8 ⟨rfl, nd2, rfl⟩))
            go_roundw
            case measure => simp [intOf]; omega
            case rel =>
              refine ⟨x + 1, c.set (offT f.f0) vn, mx least (verT f.f0), by first | rfl | (congr 1; unfold wrap64; omega), by first | rfl | simp [mx], by omega, ⟨by omega⟩, ⟨by rw [List.length_set]; exact HCL.out⟩, ⟨by rw [show (x + 1).toNat = x.toNat + 1 by omega]; exact HFF.out⟩, ⟨((P2.out.far (by have := HN.out; show n2 ≠ n4; omega) _).drewN nd2)⟩, ⟨((P4.out.put _ _ (intsA_set c _ _)).drewN nd2)⟩, ⟨pw_below_drewN (below_put PB.out (Nat.le_of_lt HN.out) (Nat.le_of_lt P2.out.lt)) nd2⟩⟩
          · rw [if_neg t3] at hF
            have ht3 : ((valR f.f1).2 == 0) = false := by simpa using t3
            generalize (valR f.f1).2 = ve at *
            have HFF := Aside0.mk hF
            have U1 := Aside0.mk u1
            have U2 := Aside0.mk u2
            clear hF hKV t2 u1 u2
            go_wp2_with (first
              | (refine wpList_store_blk rfl 40 (.tmp 7) (.tmp 24) rfl wr.heap.size #[.int .i64 f.f0, .slice A1 f.f1.length c1] rfl rfl 40 _ (Blk.new wr _ _) (by kernel_rfl) rfl (field_one _ _ _ _) ?_; intro w5 hv5 hg5; have L2 := Aside0.mk ((K2.out.alloc _).grown hg5 (by have := K2.out.lt; omega)); have L4 := Aside0.mk ((K4.out.alloc _).grown hg5 (by have := K4.out.lt; omega)); have LB := Aside0.mk (below_grown (KB.out.alloc (Nat.le_of_lt K2.out.lt) _) hg5 (Nat.le_of_lt K2.out.lt) (by have := K2.out.lt; simp only [World.size_alloc]; omega)); have L5 := Aside0.mk hv5; have c50 : w5.cell? ⟨wr.heap.size, 0, none⟩ = some (.int .i64 f.f0) := hv5.cell 0 _ rfl; have c51 : w5.cell? ⟨wr.heap.size, 1, none⟩ = some (.slice A1 f.f1.length c1) := hv5.cell 1 _ rfl; clear hv5 hg5 K2 KB K4)
              | (go_at_call 40; refine (place_in n4 f.f0 _ U1.out U2.out).mono ?_; rintro e w6 ⟨rfl, hb6⟩; have M2 := Aside0.mk (L2.out.below hb6 L2.out.lt); have M4 := Aside0.mk (L4.out.below hb6 L4.out.lt); have M5 := Aside0.mk (L5.out.below hb6 L5.out.lt); have MB := Aside0.mk (LB.out.trans (hb6.mono (Nat.le_of_lt L2.out.lt))); have c60 : w6.cell? ⟨wr.heap.size, 0, none⟩ = some (.int .i64 f.f0) := M5.out.cell 0 _ rfl; have c61 : w6.cell? ⟨wr.heap.size, 1, none⟩ = some (.slice A1 f.f1.length c1) := M5.out.cell 1 _ rfl; clear hb6 L2 LB L4 L5 c50 c51)
              | (go_at_call 26; refine (tlv_Value.calls KV A1 c1 f.f1 _ _ _ (Kd.C_below HC1.out (by rw [← HN0.out]; exact MB.out)) HL1.out HV.out).mono ?_; rintro e w7 ⟨rfl, nd, rfl⟩; have P2 := Aside0.mk (M2.out.drewN nd); have P4 := Aside0.mk (M4.out.drewN nd); have P5 := Aside0.mk (M5.out.drewN nd); have PB := Aside0.mk (pw_below_drewN MB.out nd); clear c60 c61 M2 M4 M5 MB; generalize w6.drewN nd = w7 at *)
              | (refine wpList_build_as rfl 46 _ rfl (intsA z15) (by as_aux_lemma => kernel_rfl) ?_)
              | (refine wpList_store_blk rfl 46 (.tmp 2) (.tmp 46) rfl n2 (intsA z15) rfl rfl 46 _ P2.out (by kernel_rfl) (by kernel_rfl) (by kernel_rfl) ?_; intro w9 hv hg; have gb := Aside0.mk (below_grown PB.out hg (Nat.le_refl _) (by have := (P2.out).lt; omega)); have gv := Aside0.mk hv; clear hv hg))
            refine bodyPost_ret (v := .tuple #[.agg (intsA z15), .int .i64 ve]) (results_row_tmp (fn := Try.f33) (p := 2) (u := 3) (by rfl) _ _ n2 46 _ _ (by rfl) gv.out Try.underlying46 rfl (by kernel_rfl)) rfl ⟨by rw [← HFF.out], by rw [← HN0.out]; exact gb.out⟩
    · have hx : l.drop x.toNat = [] := List.drop_eq_nil_of_le (by omega)
      have hF0 := HF.out
      rw [hx, fgL] at hF0
      obtain ⟨v0, v1, v2, v3, v4, v5, v6, v7, v8, v9, v10, v11, v12, v13, v14, rfl⟩ := list15 HCL.out
      have hF : (if v14 < least then (z15, 12) else if 3 < v14 then (z15, 12) else if v1 = 4 then finT [v0, v1, v2, v3, v4, v5, v6, v7, v8, v9, v10, v11, v12, v13, v14] else if v9 = 0 then finT ([v0, v1, v2, v3, v4, v5, v6, v7, v8, v9, v10, v11, v12, v13, v14].set 9 (Int.tmod v1 3)) else (z15, 9)) = R := hF0
      clear hF0 hx HF HCL
      have q0 : wr.cell? ⟨n4, 0, none⟩ = some (.int .i64 (v0)) := K4.out.cell 0 _ rfl
      have q1 : wr.cell? ⟨n4, 1, none⟩ = some (.int .i64 (v1)) := K4.out.cell 1 _ rfl
      have q2 : wr.cell? ⟨n4, 2, none⟩ = some (.int .i64 (v2)) := K4.out.cell 2 _ rfl
      have q3 : wr.cell? ⟨n4, 3, none⟩ = some (.int .i64 (v3)) := K4.out.cell 3 _ rfl
      have q4 : wr.cell? ⟨n4, 4, none⟩ = some (.int .i64 (v4)) := K4.out.cell 4 _ rfl
      have q5 : wr.cell? ⟨n4, 5, none⟩ = some (.int .i64 (v5)) := K4.out.cell 5 _ rfl
      have q6 : wr.cell? ⟨n4, 6, none⟩ = some (.int .i64 (v6)) := K4.out.cell 6 _ rfl
      have q7 : wr.cell? ⟨n4, 7, none⟩ = some (.int .i64 (v7)) := K4.out.cell 7 _ rfl
      have q8 : wr.cell? ⟨n4, 8, none⟩ = some (.int .i64 (v8)) := K4.out.cell 8 _ rfl
      have q9 : wr.cell? ⟨n4, 9, none⟩ = some (.int .i64 (v9)) := K4.out.cell 9 _ rfl
      have q10 : wr.cell? ⟨n4, 10, none⟩ = some (.int .i64 (v10)) := K4.out.cell 10 _ rfl
      have q11 : wr.cell? ⟨n4, 11, none⟩ = some (.int .i64 (v11)) := K4.out.cell 11 _ rfl
      have q12 : wr.cell? ⟨n4, 12, none⟩ = some (.int .i64 (v12)) := K4.out.cell 12 _ rfl
      have q13 : wr.cell? ⟨n4, 13, none⟩ = some (.int .i64 (v13)) := K4.out.cell 13 _ rfl
      have q14 : wr.cell? ⟨n4, 14, none⟩ = some (.int .i64 (v14)) := K4.out.cell 14 _ rfl
      by_cases s1 : v14 < least
      · rw [if_pos s1] at hF
        have HFF := Aside0.mk hF
        clear hF
        go_wp2_with (first
          | (refine wpList_build_as rfl 46 _ rfl (intsA z15) (by as_aux_lemma => kernel_rfl) ?_)
          | (refine wpList_store_blk rfl 46 (.tmp 2) (.tmp 76) rfl n2 (intsA z15) rfl rfl 46 _ K2.out (by kernel_rfl) (by kernel_rfl) (by kernel_rfl) ?_; intro w9 hv hg; have gb := Aside0.mk (below_grown KB.out hg (Nat.le_refl _) (by have := (K2.out).lt; omega)); have gv := Aside0.mk hv; clear hv hg))
        refine bodyPost_ret (v := .tuple #[.agg (intsA z15), .int .i64 12]) (results_row_tmp (fn := Try.f33) (p := 2) (u := 3) (by rfl) _ _ n2 46 _ _ (by rfl) gv.out Try.underlying46 rfl (by kernel_rfl)) rfl ⟨by rw [← HFF.out], by rw [← HN0.out]; exact gb.out⟩
      · rw [if_neg s1] at hF
        by_cases s2 : 3 < v14
        · rw [if_pos s2] at hF
          have HFF := Aside0.mk hF
          clear hF
          go_wp2_with (first
            | (refine wpList_build_as rfl 46 _ rfl (intsA z15) (by as_aux_lemma => kernel_rfl) ?_)
            | (refine wpList_store_blk rfl 46 (.tmp 2) (.tmp 76) rfl n2 (intsA z15) rfl rfl 46 _ K2.out (by kernel_rfl) (by kernel_rfl) (by kernel_rfl) ?_; intro w9 hv hg; have gb := Aside0.mk (below_grown KB.out hg (Nat.le_refl _) (by have := (K2.out).lt; omega)); have gv := Aside0.mk hv; clear hv hg))
          refine bodyPost_ret (v := .tuple #[.agg (intsA z15), .int .i64 12]) (results_row_tmp (fn := Try.f33) (p := 2) (u := 3) (by rfl) _ _ n2 46 _ _ (by rfl) gv.out Try.underlying46 rfl (by kernel_rfl)) rfl ⟨by rw [← HFF.out], by rw [← HN0.out]; exact gb.out⟩
        · rw [if_neg s2] at hF
          by_cases s3 : v1 = 4
          · rw [if_pos s3] at hF
            subst s3
            have hT : (if 100 ≤ v11 then (z15, 9) else if isB v0 4 v2 v3 v4 v5 v6 v7 v8 v9 v10 = true then ([v0, 4, v2, v3, v4, v5, v6, v7, v8, v9, v10, v11, v12, v13, v14], 0) else (z15, 9)) = R := hF
            by_cases s5 : 100 ≤ v11
            · rw [if_pos s5] at hT
              have HFF := Aside0.mk hT
              clear hT hF
              go_wp2_with (first
                | (refine wpList_build_as rfl 46 _ rfl (intsA z15) (by as_aux_lemma => kernel_rfl) ?_)
                | (refine wpList_store_blk rfl 46 (.tmp 2) (.tmp 119) rfl n2 (intsA z15) rfl rfl 46 _ K2.out (by kernel_rfl) (by kernel_rfl) (by kernel_rfl) ?_; intro w9 hv hg; have gb := Aside0.mk (below_grown KB.out hg (Nat.le_refl _) (by have := (K2.out).lt; omega)); have gv := Aside0.mk hv; clear hv hg))
              refine bodyPost_ret (v := .tuple #[.agg (intsA z15), .int .i64 9]) (results_row_tmp (fn := Try.f33) (p := 2) (u := 3) (by rfl) _ _ n2 46 _ _ (by rfl) gv.out Try.underlying46 rfl (by kernel_rfl)) rfl ⟨by rw [← HFF.out], by rw [← HN0.out]; exact gb.out⟩
            · rw [if_neg s5] at hT
              cases hI : isB v0 4 v2 v3 v4 v5 v6 v7 v8 v9 v10
              · rw [hI, if_neg (by decide)] at hT
                have HFF := Aside0.mk hT
                clear hT hF
                go_wp2_with (first
                  | (go_at_call 35; refine (is_any (v0) (4) (v2) (v3) (v4) (v5) (v6) (v7) (v8) (v9) (v10) _).mono ?_; rintro e w3 ⟨rfl, hb3⟩; rw [hI]; have Q2 := Aside0.mk (K2.out.below hb3 K2.out.lt); have Q4 := Aside0.mk (K4.out.below hb3 K4.out.lt); have QB := Aside0.mk (KB.out.trans (hb3.mono (Nat.le_of_lt K2.out.lt))); clear hb3)
                  | (refine wpList_build_as rfl 46 _ rfl (intsA z15) (by as_aux_lemma => kernel_rfl) ?_)
                  | (refine wpList_store_blk rfl 46 (.tmp 2) (.tmp 119) rfl n2 (intsA z15) rfl rfl 46 _ Q2.out (by kernel_rfl) (by kernel_rfl) (by kernel_rfl) ?_; intro w9 hv hg; have gb := Aside0.mk (below_grown QB.out hg (Nat.le_refl _) (by have := (Q2.out).lt; omega)); have gv := Aside0.mk hv; clear hv hg))
                refine bodyPost_ret (v := .tuple #[.agg (intsA z15), .int .i64 9]) (results_row_tmp (fn := Try.f33) (p := 2) (u := 3) (by rfl) _ _ n2 46 _ _ (by rfl) gv.out Try.underlying46 rfl (by kernel_rfl)) rfl ⟨by rw [← HFF.out], by rw [← HN0.out]; exact gb.out⟩
              · rw [hI, if_pos rfl] at hT
                have HFF := Aside0.mk hT
                clear hT hF
                go_wp2_with (first
                  | (go_at_call 35; refine (is_any (v0) (4) (v2) (v3) (v4) (v5) (v6) (v7) (v8) (v9) (v10) _).mono ?_; rintro e w3 ⟨rfl, hb3⟩; rw [hI]; have Q2 := Aside0.mk (K2.out.below hb3 K2.out.lt); have Q4 := Aside0.mk (K4.out.below hb3 K4.out.lt); have QB := Aside0.mk (KB.out.trans (hb3.mono (Nat.le_of_lt K2.out.lt))); clear hb3)
                  | (refine wpList_load_str rfl 46 (.tmp 122) rfl n4 rfl 65 (intsA [v0, 4, v2, v3, v4, v5, v6, v7, v8, v9, v10, v11, v12, v13, v14]) _ Q4.out Try.underlying46 (by kernel_rfl) ?_)
                  | (refine wpList_store_blk rfl 46 (.tmp 2) (.tmp 123) rfl n2 (intsA [v0, 4, v2, v3, v4, v5, v6, v7, v8, v9, v10, v11, v12, v13, v14]) rfl rfl 46 _ Q2.out (by kernel_rfl) rfl (ints_one _) ?_; intro w9 hv hg; have gb := Aside0.mk (below_grown QB.out hg (Nat.le_refl _) (by have := Q2.out.lt; omega)); have gv := Aside0.mk hv; clear hv hg))
                refine bodyPost_ret (v := .tuple #[.agg (intsA [v0, 4, v2, v3, v4, v5, v6, v7, v8, v9, v10, v11, v12, v13, v14]), .int .i64 0]) (results_row_tmp (fn := Try.f33) (p := 2) (u := 3) (by rfl) _ _ n2 46 _ _ (by rfl) gv.out Try.underlying46 rfl (by kernel_rfl)) rfl ⟨by rw [← HFF.out], by rw [← HN0.out]; exact gb.out⟩
          · rw [if_neg s3] at hF
            by_cases s4 : v9 = 0
            · rw [if_pos s4] at hF
              have k49 := K4.out.frozen 9
              go_upto_region 26 with (fail)
              clear q0 q1 q2 q3 q4 q5 q6 q7 q8 q9 q10 q11 q12 q13 q14 k49
              have R4 : Blk (wr.setCell ⟨n4, 9, none⟩ (.int .i64 (Int.tmod v1 3))) n4 (intsA [v0, v1, v2, v3, v4, v5, v6, v7, v8, Int.tmod v1 3, v10, v11, v12, v13, v14]) 65 := K4.out.put 9 _ rfl
              have R2 : Blk (wr.setCell ⟨n4, 9, none⟩ (.int .i64 (Int.tmod v1 3))) n2 (intsA z15) 46 := K2.out.far (by have := HN.out; show n2 ≠ n4; omega) _
              have RB : Below n2 w (wr.setCell ⟨n4, 9, none⟩ (.int .i64 (Int.tmod v1 3))) := below_put KB.out (Nat.le_of_lt HN.out) (Nat.le_of_lt K2.out.lt)
              generalize (wr.setCell ⟨n4, 9, none⟩ (.int .i64 (Int.tmod v1 3))) = w4 at *
              clear K2 K4 KB
              have K2 := Aside0.mk R2
              have K4 := Aside0.mk R4
              have KB := Aside0.mk RB
              clear R2 R4 RB
              have q0 : w4.cell? ⟨n4, 0, none⟩ = some (.int .i64 (v0)) := K4.out.cell 0 _ rfl
              have q1 : w4.cell? ⟨n4, 1, none⟩ = some (.int .i64 (v1)) := K4.out.cell 1 _ rfl
              have q2 : w4.cell? ⟨n4, 2, none⟩ = some (.int .i64 (v2)) := K4.out.cell 2 _ rfl
              have q3 : w4.cell? ⟨n4, 3, none⟩ = some (.int .i64 (v3)) := K4.out.cell 3 _ rfl
              have q4 : w4.cell? ⟨n4, 4, none⟩ = some (.int .i64 (v4)) := K4.out.cell 4 _ rfl
              have q5 : w4.cell? ⟨n4, 5, none⟩ = some (.int .i64 (v5)) := K4.out.cell 5 _ rfl
              have q6 : w4.cell? ⟨n4, 6, none⟩ = some (.int .i64 (v6)) := K4.out.cell 6 _ rfl
              have q7 : w4.cell? ⟨n4, 7, none⟩ = some (.int .i64 (v7)) := K4.out.cell 7 _ rfl
              have q8 : w4.cell? ⟨n4, 8, none⟩ = some (.int .i64 (v8)) := K4.out.cell 8 _ rfl
              have q9 : w4.cell? ⟨n4, 9, none⟩ = some (.int .i64 (Int.tmod v1 3)) := K4.out.cell 9 _ rfl
              have q10 : w4.cell? ⟨n4, 10, none⟩ = some (.int .i64 (v10)) := K4.out.cell 10 _ rfl
              have q11 : w4.cell? ⟨n4, 11, none⟩ = some (.int .i64 (v11)) := K4.out.cell 11 _ rfl
              have q12 : w4.cell? ⟨n4, 12, none⟩ = some (.int .i64 (v12)) := K4.out.cell 12 _ rfl
              have q13 : w4.cell? ⟨n4, 13, none⟩ = some (.int .i64 (v13)) := K4.out.cell 13 _ rfl
              have q14 : w4.cell? ⟨n4, 14, none⟩ = some (.int .i64 (v14)) := K4.out.cell 14 _ rfl
              have hT : (if 100 ≤ v11 then (z15, 9) else if isB v0 v1 v2 v3 v4 v5 v6 v7 v8 (Int.tmod v1 3) v10 = true then ([v0, v1, v2, v3, v4, v5, v6, v7, v8, Int.tmod v1 3, v10, v11, v12, v13, v14], 0) else (z15, 9)) = R := hF
              by_cases s5 : 100 ≤ v11
              · rw [if_pos s5] at hT
                have HFF := Aside0.mk hT
                clear hT hF
                go_wp2_with (first
                  | (refine wpList_build_as rfl 46 _ rfl (intsA z15) (by as_aux_lemma => kernel_rfl) ?_)
                  | (refine wpList_store_blk rfl 46 (.tmp 2) (.tmp 119) rfl n2 (intsA z15) rfl rfl 46 _ K2.out (by kernel_rfl) (by kernel_rfl) (by kernel_rfl) ?_; intro w9 hv hg; have gb := Aside0.mk (below_grown KB.out hg (Nat.le_refl _) (by have := (K2.out).lt; omega)); have gv := Aside0.mk hv; clear hv hg))
                refine bodyPost_ret (v := .tuple #[.agg (intsA z15), .int .i64 9]) (results_row_tmp (fn := Try.f33) (p := 2) (u := 3) (by rfl) _ _ n2 46 _ _ (by rfl) gv.out Try.underlying46 rfl (by kernel_rfl)) rfl ⟨by rw [← HFF.out], by rw [← HN0.out]; exact gb.out⟩
              · rw [if_neg s5] at hT
                cases hI : isB v0 v1 v2 v3 v4 v5 v6 v7 v8 (Int.tmod v1 3) v10
                · rw [hI, if_neg (by decide)] at hT
                  have HFF := Aside0.mk hT
                  clear hT hF
                  go_wp2_with (first
                    | (go_at_call 35; refine (is_any (v0) (v1) (v2) (v3) (v4) (v5) (v6) (v7) (v8) (Int.tmod v1 3) (v10) _).mono ?_; rintro e w3 ⟨rfl, hb3⟩; rw [hI]; have Q2 := Aside0.mk (K2.out.below hb3 K2.out.lt); have Q4 := Aside0.mk (K4.out.below hb3 K4.out.lt); have QB := Aside0.mk (KB.out.trans (hb3.mono (Nat.le_of_lt K2.out.lt))); clear hb3)
                    | (refine wpList_build_as rfl 46 _ rfl (intsA z15) (by as_aux_lemma => kernel_rfl) ?_)
                    | (refine wpList_store_blk rfl 46 (.tmp 2) (.tmp 119) rfl n2 (intsA z15) rfl rfl 46 _ Q2.out (by kernel_rfl) (by kernel_rfl) (by kernel_rfl) ?_; intro w9 hv hg; have gb := Aside0.mk (below_grown QB.out hg (Nat.le_refl _) (by have := (Q2.out).lt; omega)); have gv := Aside0.mk hv; clear hv hg))
                  refine bodyPost_ret (v := .tuple #[.agg (intsA z15), .int .i64 9]) (results_row_tmp (fn := Try.f33) (p := 2) (u := 3) (by rfl) _ _ n2 46 _ _ (by rfl) gv.out Try.underlying46 rfl (by kernel_rfl)) rfl ⟨by rw [← HFF.out], by rw [← HN0.out]; exact gb.out⟩
                · rw [hI, if_pos rfl] at hT
                  have HFF := Aside0.mk hT
                  clear hT hF
                  go_wp2_with (first
                    | (go_at_call 35; refine (is_any (v0) (v1) (v2) (v3) (v4) (v5) (v6) (v7) (v8) (Int.tmod v1 3) (v10) _).mono ?_; rintro e w3 ⟨rfl, hb3⟩; rw [hI]; have Q2 := Aside0.mk (K2.out.below hb3 K2.out.lt); have Q4 := Aside0.mk (K4.out.below hb3 K4.out.lt); have QB := Aside0.mk (KB.out.trans (hb3.mono (Nat.le_of_lt K2.out.lt))); clear hb3)
                    | (refine wpList_load_str rfl 46 (.tmp 122) rfl n4 rfl 65 (intsA [v0, v1, v2, v3, v4, v5, v6, v7, v8, Int.tmod v1 3, v10, v11, v12, v13, v14]) _ Q4.out Try.underlying46 (by kernel_rfl) ?_)
                    | (refine wpList_store_blk rfl 46 (.tmp 2) (.tmp 123) rfl n2 (intsA [v0, v1, v2, v3, v4, v5, v6, v7, v8, Int.tmod v1 3, v10, v11, v12, v13, v14]) rfl rfl 46 _ Q2.out (by kernel_rfl) rfl (ints_one _) ?_; intro w9 hv hg; have gb := Aside0.mk (below_grown QB.out hg (Nat.le_refl _) (by have := Q2.out.lt; omega)); have gv := Aside0.mk hv; clear hv hg))
                  refine bodyPost_ret (v := .tuple #[.agg (intsA [v0, v1, v2, v3, v4, v5, v6, v7, v8, Int.tmod v1 3, v10, v11, v12, v13, v14]), .int .i64 0]) (results_row_tmp (fn := Try.f33) (p := 2) (u := 3) (by rfl) _ _ n2 46 _ _ (by rfl) gv.out Try.underlying46 rfl (by kernel_rfl)) rfl ⟨by rw [← HFF.out], by rw [← HN0.out]; exact gb.out⟩
            · rw [if_neg s4] at hF
              have HFF := Aside0.mk hF
              clear hF
              go_wp2_with (first
                | (refine wpList_build_as rfl 46 _ rfl (intsA z15) (by as_aux_lemma => kernel_rfl) ?_)
                | (refine wpList_store_blk rfl 46 (.tmp 2) (.tmp 91) rfl n2 (intsA z15) rfl rfl 46 _ K2.out (by kernel_rfl) (by kernel_rfl) (by kernel_rfl) ?_; intro w9 hv hg; have gb := Aside0.mk (below_grown KB.out hg (Nat.le_refl _) (by have := (K2.out).lt; omega)); have gv := Aside0.mk hv; clear hv hg))
              refine bodyPost_ret (v := .tuple #[.agg (intsA z15), .int .i64 9]) (results_row_tmp (fn := Try.f33) (p := 2) (u := 3) (by rfl) _ _ n2 46 _ _ (by rfl) gv.out Try.underlying46 rfl (by kernel_rfl)) rfl ⟨by rw [← HFF.out], by rw [← HN0.out]; exact gb.out⟩
end Go.Proofs.Ytekgienbhpknlaa.G
end
section
set_option linter.unusedVariables false
namespace Go.Proofs.Ytekgienbhpknlaa.G
open Go Go.RowKit Go.Proofs.YtekgienbhpknlaaW.PrintWords Go.Proofs.YtekgienbhpknlaaW.PrintLast Go.Proofs.YtekgienbhpknlaaW.PrintMore Go.Proofs.Ytekgienbhpknlaa.PL Go.Proofs.Ytekgienbhpknlaa.Q
def okF (l : List SF) : Bool := l.all fun f => f.f1.all fun x => decide (0 ≤ x) && decide (x ≤ 255)
theorem okF_bytes {l : List SF} (h : okF l = true) : ∀ f ∈ l, IsBytes f.f1 := fun f hf x hx => by
  have := List.all_eq_true.1 (List.all_eq_true.1 h f hf) x hx
  simpa using this
theorem okF_of {l : List SF} (h : ∀ f ∈ l, IsBytes f.f1) : okF l = true := by
  simp only [okF, List.all_eq_true]
  intro f hf x hx
  have := h f hf x hx
  simpa using this
def tup16 (r : List Int × Int) : Int × Int × Int × Int × Int × Int × Int × Int × Int × Int × Int × Int × Int × Int × Int × Int := (r.1.getD 0 0, r.1.getD 1 0, r.1.getD 2 0, r.1.getD 3 0, r.1.getD 4 0, r.1.getD 5 0, r.1.getD 6 0, r.1.getD 7 0, r.1.getD 8 0, r.1.getD 9 0, r.1.getD 10 0, r.1.getD 11 0, r.1.getD 12 0, r.1.getD 13 0, r.1.getD 14 0, r.2)
def fgetF (l : List SF) : Option (Int × Int × Int × Int × Int × Int × Int × Int × Int × Int × Int × Int × Int × Int × Int × Int) := if okF l = true ∧ l.length ≤ 9223372036854775806 then some (tup16 (fgetR l)) else none
theorem finT_len (c : List Int) (h : c.length = 15) : (finT c).1.length = 15 := by
  unfold finT; split
  · rfl
  · split
    · exact h
    · rfl
theorem finR_len (c : List Int) (least : Int) (h : c.length = 15) : (finR c least).1.length = 15 := by
  unfold finR
  split
  · rfl
  · split
    · rfl
    · split
      · exact finT_len c h
      · split
        · exact finT_len _ (by rw [List.length_set]; exact h)
        · rfl
theorem fgL_len : ∀ (l : List SF) (c : List Int) (least : Int), c.length = 15 → (fgL l c least).1.length = 15
  | [], c, least, h => finR_len c least h
  | f :: fs, c, least, h => by
    rw [fgL]
    split
    · rfl
    · split
      · rfl
      · split
        · exact fgL_len fs _ _ (by rw [List.length_set]; exact h)
        · rfl
theorem fgetR_len (l : List SF) : (fgetR l).1.length = 15 := by
  unfold fgetR
  split
  · exact fgL_len l z15 1 rfl
  · rfl
theorem fget_any (A : Option Addr) (cap : Nat) (l : List SF) (w : World) (hr : Kd.C k40 w A l.length l) (hc : l.length ≤ cap) (hby : ∀ f ∈ l, IsBytes f.f1) (hlen : l.length ≤ 9223372036854775806) :
    Calls Try.prog 33 #[.slice A l.length cap] w fun e w' => e = .returned (.tuple #[.agg (intsA (fgetR l).1), .int .i64 (fgetR l).2]) ∧ Below w.heap.size w w' := by
  cases hG : isG 0 l
  · exact fget_no A cap l w hr hc hlen hG
  · exact fget_yes A cap l w hr hc hlen hby hG
theorem fget_calls (A0 : Option Addr) (c0 : Nat) (l0 : List SF) (r1 : Int) (r2 : Int) (r3 : Int) (r4 : Int) (r5 : Int) (r6 : Int) (r7 : Int) (r8 : Int) (r9 : Int) (r10 : Int) (r11 : Int) (r12 : Int) (r13 : Int) (r14 : Int) (r15 : Int) (r16 : Int) (w : World) (hr0 : Kd.C k40 w A0 l0.length l0) (hc0 : l0.length ≤ c0) (h : fgetF l0 = some (r1, r2, r3, r4, r5, r6, r7, r8, r9, r10, r11, r12, r13, r14, r15, r16)) :
    Calls Try.prog 33 #[.slice A0 l0.length c0] w fun e w' => e = .returned (.tuple #[.agg #[.int .i64 r1, .int .i64 r2, .int .i64 r3, .int .i64 r4, .int .i64 r5, .int .i64 r6, .int .i64 r7, .int .i64 r8, .int .i64 r9, .int .i64 r10, .int .i64 r11, .int .i64 r12, .int .i64 r13, .int .i64 r14, .int .i64 r15], .int .i64 r16]) ∧ Below w.heap.size w w' := by
  unfold fgetF at h
  by_cases hok : okF l0 = true ∧ l0.length ≤ 9223372036854775806
  · rw [if_pos hok] at h
    have hc := fget_any A0 c0 l0 w hr0 hc0 (okF_bytes hok.1) hok.2
    obtain ⟨v0, v1, v2, v3, v4, v5, v6, v7, v8, v9, v10, v11, v12, v13, v14, hv⟩ := list15 (fgetR_len l0)
    generalize fgetR l0 = R at *
    obtain ⟨c, e⟩ := R
    replace hv : c = [v0, v1, v2, v3, v4, v5, v6, v7, v8, v9, v10, v11, v12, v13, v14] := hv
    subst hv
    replace h : (v0, v1, v2, v3, v4, v5, v6, v7, v8, v9, v10, v11, v12, v13, v14, e) = (r1, r2, r3, r4, r5, r6, r7, r8, r9, r10, r11, r12, r13, r14, r15, r16) := Option.some.inj h
    simp only [Prod.mk.injEq] at h
    obtain ⟨rfl, rfl, rfl, rfl, rfl, rfl, rfl, rfl, rfl, rfl, rfl, rfl, rfl, rfl, rfl, rfl⟩ := h
    exact hc
  · rw [if_neg hok] at h
    exact absurd h (by simp)
end Go.Proofs.Ytekgienbhpknlaa.G
end
section
set_option linter.unusedVariables false
namespace Go.Proofs.Ytekgienbhpknlaa.G
open Go Go.RowKit Go.Proofs.YtekgienbhpknlaaW.PrintWords Go.Proofs.YtekgienbhpknlaaW.PrintLast Go.Proofs.YtekgienbhpknlaaW.PrintMore Go.Proofs.Ytekgienbhpknlaa.PL Go.Proofs.Ytekgienbhpknlaa.Q
attribute [local go_sem high] eqA44
set_option maxRecDepth 100000 in
set_option maxHeartbeats 3000000 in
theorem fput_ok (v0 v1 v2 v3 v4 v5 v6 v7 v8 v9 v10 v11 v14 : Int) (r1 : List S40) (r2 : Int) (w : World) (hI : isB v0 v1 v2 v3 v4 v5 v6 v7 v8 v9 v10 = true) (n1 : ¬ v11 < 0) (n2 : ¬ 100 ≤ v11) (n4 : ¬ v14 < 1) (n5 : ¬ 3 < v14) (h : fputL v0 v1 v2 v3 v4 v5 v6 v7 v8 v9 v10 v11 0 0 v14 13 1 [] = (r1, r2)) :
    Calls Try.prog 28 #[.agg #[.int .i64 v0, .int .i64 v1, .int .i64 v2, .int .i64 v3, .int .i64 v4, .int .i64 v5, .int .i64 v6, .int .i64 v7, .int .i64 v8, .int .i64 v9, .int .i64 v10, .int .i64 v11, .int .i64 0, .int .i64 0, .int .i64 v14]] w fun e w' => ∃ v0_ : Value, e = .returned (.tuple #[v0_, .int .i64 r2]) ∧ Kd.N k40 40 w' w.heap.size (fun k_ => w.heap.size ≤ k_) v0_ r1 ∧ Below w.heap.size w w' := by
  have n3 : ((0 : Int) == 0 && ((0 : Int) == 0)) = true := rfl
  have H' := Aside0.mk h
  clear h
  go_enter Try.func28, Try.ntmps28
  go_wp2_with (first
    | (go_at_call 35; refine (is_any _ _ _ _ _ _ _ _ _ _ _ _).mono ?_; rintro e w1 ⟨rfl, hb⟩; rw [hI]; have F1 := box_one (c1 := #[.int .i64 v0, .int .i64 v1, .int .i64 v2, .int .i64 v3, .int .i64 v4, .int .i64 v5, .int .i64 v6, .int .i64 v7, .int .i64 v8, .int .i64 v9, .int .i64 v10, .int .i64 v11, .int .i64 0, .int .i64 0, .int .i64 v14]) hb; clear hb; have e0 := F1.1.cell 0 _ rfl; have e1 := F1.1.cell 1 _ rfl; have e2 := F1.1.cell 2 _ rfl; have e3 := F1.1.cell 3 _ rfl; have e4 := F1.1.cell 4 _ rfl; have e5 := F1.1.cell 5 _ rfl; have e6 := F1.1.cell 6 _ rfl; have e7 := F1.1.cell 7 _ rfl; have e8 := F1.1.cell 8 _ rfl; have e9 := F1.1.cell 9 _ rfl; have e10 := F1.1.cell 10 _ rfl; have e11 := F1.1.cell 11 _ rfl; have e12 := F1.1.cell 12 _ rfl; have e13 := F1.1.cell 13 _ rfl; have e14 := F1.1.cell 14 _ rfl)
    | go_in)
  have HP : Blk (w1.alloc (.cells #[.int .i64 v0, .int .i64 v1, .int .i64 v2, .int .i64 v3, .int .i64 v4, .int .i64 v5, .int .i64 v6, .int .i64 v7, .int .i64 v8, .int .i64 v9, .int .i64 v10, .int .i64 v11, .int .i64 0, .int .i64 0, .int .i64 v14] 65)) w.heap.size #[.int .i64 v0, .int .i64 v1, .int .i64 v2, .int .i64 v3, .int .i64 v4, .int .i64 v5, .int .i64 v6, .int .i64 v7, .int .i64 v8, .int .i64 v9, .int .i64 v10, .int .i64 v11, .int .i64 0, .int .i64 0, .int .i64 v14] 46 := F1.1.alloc _
  have HS : Blk (w1.alloc (.cells #[.int .i64 v0, .int .i64 v1, .int .i64 v2, .int .i64 v3, .int .i64 v4, .int .i64 v5, .int .i64 v6, .int .i64 v7, .int .i64 v8, .int .i64 v9, .int .i64 v10, .int .i64 v11, .int .i64 0, .int .i64 0, .int .i64 v14] 65)) w1.heap.size #[.int .i64 v0, .int .i64 v1, .int .i64 v2, .int .i64 v3, .int .i64 v4, .int .i64 v5, .int .i64 v6, .int .i64 v7, .int .i64 v8, .int .i64 v9, .int .i64 v10, .int .i64 v11, .int .i64 0, .int .i64 0, .int .i64 v14] 65 := Blk.new _ _ _
  have HB := below_alloc F1.2 (.cells #[.int .i64 v0, .int .i64 v1, .int .i64 v2, .int .i64 v3, .int .i64 v4, .int .i64 v5, .int .i64 v6, .int .i64 v7, .int .i64 v8, .int .i64 v9, .int .i64 v10, .int .i64 v11, .int .i64 0, .int .i64 0, .int .i64 v14] 65)
  have hne : w.heap.size < w1.heap.size := F1.1.lt
  generalize w1.heap.size = b1 at *
  obtain ⟨k0, hk0⟩ : ∃ k0, k0 = 14 := ⟨_, rfl⟩
  go_loopg [6, 7] k0 (fun kq q6 q7 w' => ∃ (d : Nat) (tag : Int) (out : List S40), q7 = .int .i64 tag ∧ Aside0 (kq = d + 1) ∧ Aside0 (tag + d = 14 ∧ 1 ≤ tag) ∧ Aside0 (fputL v0 v1 v2 v3 v4 v5 v6 v7 v8 v9 v10 v11 0 0 v14 d tag out = (r1, r2)) ∧ Aside0 (Blk w' w.heap.size #[.int .i64 v0, .int .i64 v1, .int .i64 v2, .int .i64 v3, .int .i64 v4, .int .i64 v5, .int .i64 v6, .int .i64 v7, .int .i64 v8, .int .i64 v9, .int .i64 v10, .int .i64 v11, .int .i64 0, .int .i64 0, .int .i64 v14] 46) ∧ Aside0 (Blk w' b1 #[.int .i64 v0, .int .i64 v1, .int .i64 v2, .int .i64 v3, .int .i64 v4, .int .i64 v5, .int .i64 v6, .int .i64 v7, .int .i64 v8, .int .i64 v9, .int .i64 v10, .int .i64 v11, .int .i64 0, .int .i64 0, .int .i64 v14] 65) ∧ Aside0 (Kd.N k40 40 w' w.heap.size (fun k_ => (w.heap.size ≤ k_ ∧ k_ ≠ w.heap.size) ∧ k_ ≠ b1) q6 out) ∧ Aside0 (out.length + d ≤ 13) ∧ Aside0 (Below w.heap.size w w'))
  case atStart => exact ⟨13, 1, [], rfl, ⟨hk0⟩, ⟨by omega, by omega⟩, H', ⟨HP⟩, ⟨HS⟩, ⟨Kd.N_nil _ _ _ _ _⟩, ⟨by simp⟩, ⟨HB⟩⟩
  case round =>
    clear H' HP HS HB hk0
    obtain ⟨d, tag, out, rfl, HK, HT, HA, HP, HS, HN, HL, HB⟩ := hrel
    obtain ⟨ht, h1⟩ := HT.out
    cases d with
    | zero =>
      have H := HA.out
      simp only [fputL, Prod.mk.injEq] at H
      obtain ⟨rfl, rfl⟩ := H
      have c13 : ¬ tag ≤ 13 := by omega
      go_wp2
      go_ret2
      exact ⟨_, rfl, Kd.N_mono HN.out (fun _ h_ => h_.1.1), HB.out⟩
    | succ d1 =>
      have h2 : tag ≤ 13 := by omega
      have hw : wrap64 (tag + 1) = tag + 1 := by unfold wrap64; omega
      have hc : ∀ W, Blk W b1 #[.int .i64 v0, .int .i64 v1, .int .i64 v2, .int .i64 v3, .int .i64 v4, .int .i64 v5, .int .i64 v6, .int .i64 v7, .int .i64 v8, .int .i64 v9, .int .i64 v10, .int .i64 v11, .int .i64 0, .int .i64 0, .int .i64 v14] 65 → W.cell? ⟨b1, offT tag, none⟩ = some (.int .i64 (numAt v0 v1 v2 v3 v4 v5 v6 v7 v8 v9 v10 v11 0 0 v14 tag)) := fun W h => h.cell _ _ (readA_at v0 v1 v2 v3 v4 v5 v6 v7 v8 v9 v10 v11 0 0 v14 tag h1 h2)
      have H := HA.out
      clear HA
      simp only [fputL] at H
      generalize numAt v0 v1 v2 v3 v4 v5 v6 v7 v8 v9 v10 v11 0 0 v14 tag = n at *
      have H1 := Aside0.mk h1
      have H2 := Aside0.mk h2
      have HSUM := Aside0.mk ht
      have HC := Aside0.mk hc
      have HNE := Aside0.mk hne
      clear ht HT hc hne
      by_cases c1 : n = 0
      · rw [if_pos (Or.inl c1)] at H
        have H' := Aside0.mk H
        clear H
        subst c1
        go_wp2_with (first
          | (go_at_call 40; refine (place_in b1 _ _ H1.out H2.out).mono ?_; rintro e w2 ⟨rfl, hb⟩; have x1 := Aside0.mk (HP.out.below hb HP.out.lt); have x2 := Aside0.mk (HS.out.below hb HS.out.lt); have x3 := Aside0.mk (Kd.N_below HN.out hb); have x4 := Aside0.mk (below_step HB.out hb); clear hb HP HS HN HB; have hcell := HC.out _ x2.out; have p1 := x1.out.cell 1 _ rfl; have p14 := x1.out.cell 14 _ rfl)
          | go_in)
        go_roundg (d1 + 1)
        case measure => have := HK.out; omega
        case rel => exact ⟨d1, tag + 1, out, (by first | rfl | (simp; done) | (simp [*]; done)), ⟨rfl⟩, ⟨by have := HSUM.out; omega, by have := H1.out; omega⟩, H', x1, x2, x3, ⟨by have := HL.out; omega⟩, x4⟩
      · by_cases c2 : tag = 12 ∧ v1 ≠ 4
        · rw [if_pos (Or.inr c2)] at H
          have H' := Aside0.mk H
          clear H
          obtain ⟨rfl, c3⟩ := c2
          have b4 : (v1 != 4) = true := bne_iff_ne.2 c3
          have b0 : (n == 0) = false := beq_eq_false_iff_ne.2 c1
          go_wp2_with (first
            | (go_at_call 40; refine (place_in b1 _ _ H1.out H2.out).mono ?_; rintro e w2 ⟨rfl, hb⟩; have x1 := Aside0.mk (HP.out.below hb HP.out.lt); have x2 := Aside0.mk (HS.out.below hb HS.out.lt); have x3 := Aside0.mk (Kd.N_below HN.out hb); have x4 := Aside0.mk (below_step HB.out hb); clear hb HP HS HN HB; have hcell := HC.out _ x2.out; have p1 := x1.out.cell 1 _ rfl; have p14 := x1.out.cell 14 _ rfl)
            | go_in)
          go_roundg (d1 + 1)
          case measure => have := HK.out; omega
          case rel => exact ⟨d1, 12 + 1, out, (by first | rfl | (simp; done) | (simp [*]; done)), ⟨rfl⟩, ⟨by have := HSUM.out; omega, by have := H1.out; omega⟩, H', x1, x2, x3, ⟨by have := HL.out; omega⟩, x4⟩
        · rw [if_neg (by rintro (h | h); exact c1 h; exact c2 h)] at H
          have b0 : (n == 0) = false := beq_eq_false_iff_ne.2 c1
          by_cases c4 : v14 < verT tag
          · rw [if_pos c4] at H
            simp only [Prod.mk.injEq] at H
            obtain ⟨rfl, rfl⟩ := H
            by_cases c5 : tag = 12
            · have c6 : v1 = 4 := Classical.byContradiction fun h => c2 ⟨c5, h⟩
              have b4 : (v1 != 4) = false := by rw [c6]; rfl
              have b12 : (tag == 12) = true := beq_iff_eq.2 c5
              replace c5 := Aside0.mk c5
              replace c6 := Aside0.mk c6
              have c7 := c5.out
              subst c7
              exact absurd c4 (by simpa [verT] using n4)
            · have b12 : (tag == 12) = false := beq_eq_false_iff_ne.2 c5
              go_wp2_with (first
                | (go_at_call 40; refine (place_in b1 _ _ H1.out H2.out).mono ?_; rintro e w2 ⟨rfl, hb⟩; have x1 := Aside0.mk (HP.out.below hb HP.out.lt); have x2 := Aside0.mk (HS.out.below hb HS.out.lt); have x3 := Aside0.mk (Kd.N_below HN.out hb); have x4 := Aside0.mk (below_step HB.out hb); clear hb HP HS HN HB; have hcell := HC.out _ x2.out; have p1 := x1.out.cell 1 _ rfl; have p14 := x1.out.cell 14 _ rfl)
                | (go_at_call 30; refine (fields_Name.calls 9 _ _ _ _ (name_f _ H1.out H2.out)).mono ?_; rintro e w3 ⟨rfl, hd⟩; have hb : Below w2.heap.size w2 w3 := (by obtain ⟨nd, rfl⟩ := hd; exact pw_below_drewN (Below.refl _ _) nd); clear hd; have y1 := Aside0.mk (x1.out.below hb x1.out.lt); have y2 := Aside0.mk (x2.out.below hb x2.out.lt); have y3 := Aside0.mk (Kd.N_below x3.out hb); have y4 := Aside0.mk (below_step x4.out hb); clear hb x1 x2 x3 x4 hcell p1 p14; have p1 := y1.out.cell 1 _ rfl; have p14 := y1.out.cell 14 _ rfl)
                | go_in)
              go_ret2
              exact ⟨_, rfl, Kd.N_nil _ _ _ _ _, y4.out⟩
          · rw [if_neg c4] at H
            obtain ⟨K, hK⟩ := number_ev n
            replace hK := Aside0.mk (hK K (Nat.le_refl _))
            rcases hR : numR n with ⟨l, c⟩
            rw [hR] at hK H
            simp only at H
            clear hR
            by_cases c7 : c = 0
            · rw [if_pos c7] at H
              have H' := Aside0.mk H
              clear H
              subst c7
              by_cases c5 : tag = 12
              · have c6 : v1 = 4 := Classical.byContradiction fun h => c2 ⟨c5, h⟩
                have b4 : (v1 != 4) = false := by rw [c6]; rfl
                have b12 : (tag == 12) = true := beq_iff_eq.2 c5
                replace c5 := Aside0.mk c5
                replace c6 := Aside0.mk c6
                clear c2
                go_wp2_with (first
                  | (go_at_call 40; refine (place_in b1 _ _ H1.out H2.out).mono ?_; rintro e w2 ⟨rfl, hb⟩; have x1 := Aside0.mk (HP.out.below hb HP.out.lt); have x2 := Aside0.mk (HS.out.below hb HS.out.lt); have x3 := Aside0.mk (Kd.N_below HN.out hb); have x4 := Aside0.mk (below_step HB.out hb); clear hb HP HS HN HB; have hcell := HC.out _ x2.out; have p1 := x1.out.cell 1 _ rfl; have p14 := x1.out.cell 14 _ rfl)
                  | (go_at_call 30; refine (fields_Name.calls 9 _ _ _ _ (name_f _ H1.out H2.out)).mono ?_; rintro e w3 ⟨rfl, hd⟩; have hb : Below w2.heap.size w2 w3 := (by obtain ⟨nd, rfl⟩ := hd; exact pw_below_drewN (Below.refl _ _) nd); clear hd; have y1 := Aside0.mk (x1.out.below hb x1.out.lt); have y2 := Aside0.mk (x2.out.below hb x2.out.lt); have y3 := Aside0.mk (Kd.N_below x3.out hb); have y4 := Aside0.mk (below_step x4.out hb); clear hb x1 x2 x3 x4 hcell p1 p14; have p1 := y1.out.cell 1 _ rfl; have p14 := y1.out.cell 14 _ rfl)
                  | (go_at_call 24; refine (tlv_Number.calls K _ _ _ _ hK.out).mono ?_; rintro e w4 ⟨v0_, rfl, hq, hb⟩; obtain ⟨A, cc, rfl, hl⟩ := Kd.Q_slice hq; have HLC := Aside0.mk hl; have HF : Aside0 (Kd.F (Kd.int .u8) w4 (fun k_ => ((fun k_ => (w.heap.size ≤ k_ ∧ k_ ≠ w.heap.size) ∧ k_ ≠ b1)) k_ ∧ some k_ ≠ (u6 : Value).ownBlock) A l.length l) := ⟨Kd.Q_F (Kd.Q_mono (Kd.Q_bound hq) (fun k_ hk => ⟨⟨⟨by have := y1.out.lt; have := hk.2.1; omega, by have := y1.out.lt; have := hk.2.1; omega⟩, by have := y2.out.lt; have := hk.2.1; omega⟩, fun he => by have := Kd.N_lt y3.out k_ he.symm; have := hk.2.1; omega⟩))⟩; have z1 := Aside0.mk (y1.out.below hb y1.out.lt); have z2 := Aside0.mk (y2.out.below hb y2.out.lt); have z3 := Aside0.mk (Kd.N_below y3.out hb); have z4 := Aside0.mk (below_step y4.out hb); clear hb hq hl y1 y2 y3 y4 p1 p14)
                  | ((with_reducible refine gate_builtin (b := .append) (xs := #[.tmp 86, .tmp 90]) rfl ?_); at_builtin; refine Kd.N_append k40 (w0 := w) w.heap.size rfl (.tmp 86) (.tmp 90) 22 40 (.agg #[(.int .i64 0), (.slice none 0 0)]) 32 rfl Try.underlying22 info40 rfl (by decide) (by omega) u6 out (⟨tag, l⟩ : S40) [.int .i64 tag, .slice A l.length cc] (fun k_ => (w.heap.size ≤ k_ ∧ k_ ≠ w.heap.size) ∧ k_ ≠ b1) (fun k_ => ((fun k_ => (w.heap.size ≤ k_ ∧ k_ ≠ w.heap.size) ∧ k_ ≠ b1)) k_ ∧ some k_ ≠ (u6 : Value).ownBlock) rfl rfl ?aP (fun _ hk => hk) ?aF z3.out z4.out z4.out.size ?aL ?_; (case aP => exact k40_mkF _ _ (⟨tag, l⟩ : S40) HLC.out HF.out); (case aF => exact fun k_ hk => ⟨⟨Nat.le_trans z4.out.size hk, by have := z1.out.lt; omega⟩, by have := z2.out.lt; omega⟩); (case aL => have := HL.out; omega); intro v1_ w5 ho hb hg hat; have u1 := Aside0.mk (show Blk w5 w.heap.size _ _ from blk_grown z1.out hg (Kd.N_away z3.out (fun k_ h_ => h_.1.2))); have u2 := Aside0.mk (show Blk w5 b1 _ _ from blk_grown z2.out hg (Kd.N_away z3.out (fun k_ h_ => h_.2))); have u3 := Aside0.mk ho; have u4 := Aside0.mk hb; clear ho hb hg hat z1 z2 z3 z4)
                  | go_in)
                go_roundg (d1 + 1)
                case measure => have := HK.out; omega
                case rel => exact ⟨d1, tag + 1, out ++ [(⟨tag, l⟩ : S40)], (by first | rfl | (simp; done) | (simp [*]; done)), ⟨rfl⟩, ⟨by have := HSUM.out; omega, by have := H1.out; omega⟩, H', u1, u2, u3, ⟨by have := HL.out; simp only [List.length_append, List.length_cons, List.length_nil]; omega⟩, u4⟩
              · have b12 : (tag == 12) = false := beq_eq_false_iff_ne.2 c5
                clear c2
                go_wp2_with (first
                  | (go_at_call 40; refine (place_in b1 _ _ H1.out H2.out).mono ?_; rintro e w2 ⟨rfl, hb⟩; have x1 := Aside0.mk (HP.out.below hb HP.out.lt); have x2 := Aside0.mk (HS.out.below hb HS.out.lt); have x3 := Aside0.mk (Kd.N_below HN.out hb); have x4 := Aside0.mk (below_step HB.out hb); clear hb HP HS HN HB; have hcell := HC.out _ x2.out; have p1 := x1.out.cell 1 _ rfl; have p14 := x1.out.cell 14 _ rfl)
                  | (go_at_call 30; refine (fields_Name.calls 9 _ _ _ _ (name_f _ H1.out H2.out)).mono ?_; rintro e w3 ⟨rfl, hd⟩; have hb : Below w2.heap.size w2 w3 := (by obtain ⟨nd, rfl⟩ := hd; exact pw_below_drewN (Below.refl _ _) nd); clear hd; have y1 := Aside0.mk (x1.out.below hb x1.out.lt); have y2 := Aside0.mk (x2.out.below hb x2.out.lt); have y3 := Aside0.mk (Kd.N_below x3.out hb); have y4 := Aside0.mk (below_step x4.out hb); clear hb x1 x2 x3 x4 hcell p1 p14; have p1 := y1.out.cell 1 _ rfl; have p14 := y1.out.cell 14 _ rfl)
                  | (go_at_call 24; refine (tlv_Number.calls K _ _ _ _ hK.out).mono ?_; rintro e w4 ⟨v0_, rfl, hq, hb⟩; obtain ⟨A, cc, rfl, hl⟩ := Kd.Q_slice hq; have HLC := Aside0.mk hl; have HF : Aside0 (Kd.F (Kd.int .u8) w4 (fun k_ => ((fun k_ => (w.heap.size ≤ k_ ∧ k_ ≠ w.heap.size) ∧ k_ ≠ b1)) k_ ∧ some k_ ≠ (u6 : Value).ownBlock) A l.length l) := ⟨Kd.Q_F (Kd.Q_mono (Kd.Q_bound hq) (fun k_ hk => ⟨⟨⟨by have := y1.out.lt; have := hk.2.1; omega, by have := y1.out.lt; have := hk.2.1; omega⟩, by have := y2.out.lt; have := hk.2.1; omega⟩, fun he => by have := Kd.N_lt y3.out k_ he.symm; have := hk.2.1; omega⟩))⟩; have z1 := Aside0.mk (y1.out.below hb y1.out.lt); have z2 := Aside0.mk (y2.out.below hb y2.out.lt); have z3 := Aside0.mk (Kd.N_below y3.out hb); have z4 := Aside0.mk (below_step y4.out hb); clear hb hq hl y1 y2 y3 y4 p1 p14)
                  | ((with_reducible refine gate_builtin (b := .append) (xs := #[.tmp 86, .tmp 90]) rfl ?_); at_builtin; refine Kd.N_append k40 (w0 := w) w.heap.size rfl (.tmp 86) (.tmp 90) 22 40 (.agg #[(.int .i64 0), (.slice none 0 0)]) 32 rfl Try.underlying22 info40 rfl (by decide) (by omega) u6 out (⟨tag, l⟩ : S40) [.int .i64 tag, .slice A l.length cc] (fun k_ => (w.heap.size ≤ k_ ∧ k_ ≠ w.heap.size) ∧ k_ ≠ b1) (fun k_ => ((fun k_ => (w.heap.size ≤ k_ ∧ k_ ≠ w.heap.size) ∧ k_ ≠ b1)) k_ ∧ some k_ ≠ (u6 : Value).ownBlock) rfl rfl ?aP (fun _ hk => hk) ?aF z3.out z4.out z4.out.size ?aL ?_; (case aP => exact k40_mkF _ _ (⟨tag, l⟩ : S40) HLC.out HF.out); (case aF => exact fun k_ hk => ⟨⟨Nat.le_trans z4.out.size hk, by have := z1.out.lt; omega⟩, by have := z2.out.lt; omega⟩); (case aL => have := HL.out; omega); intro v1_ w5 ho hb hg hat; have u1 := Aside0.mk (show Blk w5 w.heap.size _ _ from blk_grown z1.out hg (Kd.N_away z3.out (fun k_ h_ => h_.1.2))); have u2 := Aside0.mk (show Blk w5 b1 _ _ from blk_grown z2.out hg (Kd.N_away z3.out (fun k_ h_ => h_.2))); have u3 := Aside0.mk ho; have u4 := Aside0.mk hb; clear ho hb hg hat z1 z2 z3 z4)
                  | go_in)
                go_roundg (d1 + 1)
                case measure => have := HK.out; omega
                case rel => exact ⟨d1, tag + 1, out ++ [(⟨tag, l⟩ : S40)], (by first | rfl | (simp; done) | (simp [*]; done)), ⟨rfl⟩, ⟨by have := HSUM.out; omega, by have := H1.out; omega⟩, H', u1, u2, u3, ⟨by have := HL.out; simp only [List.length_append, List.length_cons, List.length_nil]; omega⟩, u4⟩
            · rw [if_neg c7] at H
              simp only [Prod.mk.injEq] at H
              obtain ⟨rfl, rfl⟩ := H
              by_cases c5 : tag = 12
              · have c6 : v1 = 4 := Classical.byContradiction fun h => c2 ⟨c5, h⟩
                have b4 : (v1 != 4) = false := by rw [c6]; rfl
                have b12 : (tag == 12) = true := beq_iff_eq.2 c5
                replace c5 := Aside0.mk c5
                replace c6 := Aside0.mk c6
                clear c2
                go_wp2_with (first
                  | (go_at_call 40; refine (place_in b1 _ _ H1.out H2.out).mono ?_; rintro e w2 ⟨rfl, hb⟩; have x1 := Aside0.mk (HP.out.below hb HP.out.lt); have x2 := Aside0.mk (HS.out.below hb HS.out.lt); have x3 := Aside0.mk (Kd.N_below HN.out hb); have x4 := Aside0.mk (below_step HB.out hb); clear hb HP HS HN HB; have hcell := HC.out _ x2.out; have p1 := x1.out.cell 1 _ rfl; have p14 := x1.out.cell 14 _ rfl)
                  | (go_at_call 30; refine (fields_Name.calls 9 _ _ _ _ (name_f _ H1.out H2.out)).mono ?_; rintro e w3 ⟨rfl, hd⟩; have hb : Below w2.heap.size w2 w3 := (by obtain ⟨nd, rfl⟩ := hd; exact pw_below_drewN (Below.refl _ _) nd); clear hd; have y1 := Aside0.mk (x1.out.below hb x1.out.lt); have y2 := Aside0.mk (x2.out.below hb x2.out.lt); have y3 := Aside0.mk (Kd.N_below x3.out hb); have y4 := Aside0.mk (below_step x4.out hb); clear hb x1 x2 x3 x4 hcell p1 p14; have p1 := y1.out.cell 1 _ rfl; have p14 := y1.out.cell 14 _ rfl)
                  | (go_at_call 24; refine (tlv_Number.calls K _ _ _ _ hK.out).mono ?_; rintro e w4 ⟨v0_, rfl, hq, hb⟩; obtain ⟨A, cc, rfl, hl⟩ := Kd.Q_slice hq; have HLC := Aside0.mk hl; have HF : Aside0 (Kd.F (Kd.int .u8) w4 (fun k_ => ((fun k_ => (w.heap.size ≤ k_ ∧ k_ ≠ w.heap.size) ∧ k_ ≠ b1)) k_ ∧ some k_ ≠ (u6 : Value).ownBlock) A l.length l) := ⟨Kd.Q_F (Kd.Q_mono (Kd.Q_bound hq) (fun k_ hk => ⟨⟨⟨by have := y1.out.lt; have := hk.2.1; omega, by have := y1.out.lt; have := hk.2.1; omega⟩, by have := y2.out.lt; have := hk.2.1; omega⟩, fun he => by have := Kd.N_lt y3.out k_ he.symm; have := hk.2.1; omega⟩))⟩; have z1 := Aside0.mk (y1.out.below hb y1.out.lt); have z2 := Aside0.mk (y2.out.below hb y2.out.lt); have z3 := Aside0.mk (Kd.N_below y3.out hb); have z4 := Aside0.mk (below_step y4.out hb); clear hb hq hl y1 y2 y3 y4 p1 p14)
                  | go_in)
                go_ret2
                exact ⟨_, rfl, Kd.N_nil _ _ _ _ _, z4.out⟩
              · have b12 : (tag == 12) = false := beq_eq_false_iff_ne.2 c5
                clear c2
                go_wp2_with (first
                  | (go_at_call 40; refine (place_in b1 _ _ H1.out H2.out).mono ?_; rintro e w2 ⟨rfl, hb⟩; have x1 := Aside0.mk (HP.out.below hb HP.out.lt); have x2 := Aside0.mk (HS.out.below hb HS.out.lt); have x3 := Aside0.mk (Kd.N_below HN.out hb); have x4 := Aside0.mk (below_step HB.out hb); clear hb HP HS HN HB; have hcell := HC.out _ x2.out; have p1 := x1.out.cell 1 _ rfl; have p14 := x1.out.cell 14 _ rfl)
                  | (go_at_call 30; refine (fields_Name.calls 9 _ _ _ _ (name_f _ H1.out H2.out)).mono ?_; rintro e w3 ⟨rfl, hd⟩; have hb : Below w2.heap.size w2 w3 := (by obtain ⟨nd, rfl⟩ := hd; exact pw_below_drewN (Below.refl _ _) nd); clear hd; have y1 := Aside0.mk (x1.out.below hb x1.out.lt); have y2 := Aside0.mk (x2.out.below hb x2.out.lt); have y3 := Aside0.mk (Kd.N_below x3.out hb); have y4 := Aside0.mk (below_step x4.out hb); clear hb x1 x2 x3 x4 hcell p1 p14; have p1 := y1.out.cell 1 _ rfl; have p14 := y1.out.cell 14 _ rfl)
                  | (go_at_call 24; refine (tlv_Number.calls K _ _ _ _ hK.out).mono ?_; rintro e w4 ⟨v0_, rfl, hq, hb⟩; obtain ⟨A, cc, rfl, hl⟩ := Kd.Q_slice hq; have HLC := Aside0.mk hl; have HF : Aside0 (Kd.F (Kd.int .u8) w4 (fun k_ => ((fun k_ => (w.heap.size ≤ k_ ∧ k_ ≠ w.heap.size) ∧ k_ ≠ b1)) k_ ∧ some k_ ≠ (u6 : Value).ownBlock) A l.length l) := ⟨Kd.Q_F (Kd.Q_mono (Kd.Q_bound hq) (fun k_ hk => ⟨⟨⟨by have := y1.out.lt; have := hk.2.1; omega, by have := y1.out.lt; have := hk.2.1; omega⟩, by have := y2.out.lt; have := hk.2.1; omega⟩, fun he => by have := Kd.N_lt y3.out k_ he.symm; have := hk.2.1; omega⟩))⟩; have z1 := Aside0.mk (y1.out.below hb y1.out.lt); have z2 := Aside0.mk (y2.out.below hb y2.out.lt); have z3 := Aside0.mk (Kd.N_below y3.out hb); have z4 := Aside0.mk (below_step y4.out hb); clear hb hq hl y1 y2 y3 y4 p1 p14)
                  | go_in)
                go_ret2
                exact ⟨_, rfl, Kd.N_nil _ _ _ _ _, z4.out⟩
end Go.Proofs.Ytekgienbhpknlaa.G
end
section
namespace Go.Proofs.Ytekgienbhpknlaa.G
open Go Go.RowKit Go.Proofs.YtekgienbhpknlaaW.PrintWords Go.Proofs.YtekgienbhpknlaaW.PrintLast Go.Proofs.YtekgienbhpknlaaW.PrintMore Go.Proofs.Ytekgienbhpknlaa.PL Go.Proofs.Ytekgienbhpknlaa.Q
theorem fput_calls (v0 v1 v2 v3 v4 v5 v6 v7 v8 v9 v10 v11 v12 v13 v14 : Int) (r1 : List S40) (r2 : Int) (w : World) (h : fputR v0 v1 v2 v3 v4 v5 v6 v7 v8 v9 v10 v11 v12 v13 v14 = (r1, r2)) :
    Calls Try.prog 28 #[.agg #[.int .i64 v0, .int .i64 v1, .int .i64 v2, .int .i64 v3, .int .i64 v4, .int .i64 v5, .int .i64 v6, .int .i64 v7, .int .i64 v8, .int .i64 v9, .int .i64 v10, .int .i64 v11, .int .i64 v12, .int .i64 v13, .int .i64 v14]] w fun e w' => ∃ v0_ : Value, e = .returned (.tuple #[v0_, .int .i64 r2]) ∧ Kd.N k40 40 w' w.heap.size (fun k_ => w.heap.size ≤ k_) v0_ r1 ∧ Below w.heap.size w w' := by
  have no : (¬ (isB v0 v1 v2 v3 v4 v5 v6 v7 v8 v9 v10 = true ∧ 0 ≤ v11 ∧ v11 < 100 ∧ v12 = 0 ∧ v13 = 0 ∧ 1 ≤ v14 ∧ v14 ≤ 3)) → (Calls Try.prog 28 #[.agg #[.int .i64 v0, .int .i64 v1, .int .i64 v2, .int .i64 v3, .int .i64 v4, .int .i64 v5, .int .i64 v6, .int .i64 v7, .int .i64 v8, .int .i64 v9, .int .i64 v10, .int .i64 v11, .int .i64 v12, .int .i64 v13, .int .i64 v14]] w fun e w' => e = .returned (.tuple #[.slice none 0 0, .int .i64 1]) ∧ Below w.heap.size w w') →
      Calls Try.prog 28 #[.agg #[.int .i64 v0, .int .i64 v1, .int .i64 v2, .int .i64 v3, .int .i64 v4, .int .i64 v5, .int .i64 v6, .int .i64 v7, .int .i64 v8, .int .i64 v9, .int .i64 v10, .int .i64 v11, .int .i64 v12, .int .i64 v13, .int .i64 v14]] w fun e w' => ∃ v0_ : Value, e = .returned (.tuple #[v0_, .int .i64 r2]) ∧ Kd.N k40 40 w' w.heap.size (fun k_ => w.heap.size ≤ k_) v0_ r1 ∧ Below w.heap.size w w' := by
    intro hn hc
    rw [fputR, if_neg hn] at h
    simp only [Prod.mk.injEq] at h
    obtain ⟨rfl, rfl⟩ := h
    exact hc.mono fun e w' he => ⟨_, he.1, Kd.N_nil _ _ _ _ _, he.2⟩
  cases hI : isB v0 v1 v2 v3 v4 v5 v6 v7 v8 v9 v10
  · exact no (fun hh => by rw [hI] at hh; exact absurd hh.1 (by decide)) (fput_isn v0 v1 v2 v3 v4 v5 v6 v7 v8 v9 v10 v11 v12 v13 v14 w hI)
  · by_cases n1 : v11 < 0
    · exact no (fun hh => by omega) (fput_key v0 v1 v2 v3 v4 v5 v6 v7 v8 v9 v10 v11 v12 v13 v14 w hI n1)
    · by_cases n2 : 100 ≤ v11
      · exact no (fun hh => by omega) (fput_big v0 v1 v2 v3 v4 v5 v6 v7 v8 v9 v10 v11 v12 v13 v14 w hI n1 n2)
      · cases n3 : (v12 == 0 && (v13 == 0))
        · exact no (fun hh => by rw [hh.2.2.2.1, hh.2.2.2.2.1] at n3; exact absurd n3 (by decide)) (fput_jou v0 v1 v2 v3 v4 v5 v6 v7 v8 v9 v10 v11 v12 v13 v14 w hI n1 n2 n3)
        · by_cases n4 : v14 < 1
          · exact no (fun hh => by omega) (fput_low v0 v1 v2 v3 v4 v5 v6 v7 v8 v9 v10 v11 v12 v13 v14 w hI n1 n2 n3 n4)
          · by_cases n5 : 3 < v14
            · exact no (fun hh => by omega) (fput_top v0 v1 v2 v3 v4 v5 v6 v7 v8 v9 v10 v11 v12 v13 v14 w hI n1 n2 n3 n4 n5)
            · simp only [Bool.and_eq_true, beq_iff_eq] at n3
              obtain ⟨rfl, rfl⟩ := n3
              rw [fputR, if_pos ⟨hI, by omega, by omega, rfl, rfl, by omega, by omega⟩] at h
              exact fput_ok v0 v1 v2 v3 v4 v5 v6 v7 v8 v9 v10 v11 v14 r1 r2 w hI n1 n2 n4 n5 h
end Go.Proofs.Ytekgienbhpknlaa.G
end
section
set_option linter.unusedVariables false
namespace Go.Proofs.Ytekgienbhpknlaa.G
open Go Go.RowKit Go.Proofs.YtekgienbhpknlaaW.PrintWords Go.Proofs.YtekgienbhpknlaaW.PrintLast Go.Proofs.YtekgienbhpknlaaW.PrintMore Go.Proofs.Ytekgienbhpknlaa.PL Go.Proofs.Ytekgienbhpknlaa.Q
def plainL : List Int := [300, 1, 0, 20, 2, 1, 0, 10, 1, 1, 0, 5, 0, 0, 2]
def l9 : List SF := [⟨1, [2]⟩, ⟨2, [5]⟩, ⟨3, [1]⟩, ⟨4, [1, 44]⟩, ⟨6, [20]⟩, ⟨7, [2]⟩, ⟨8, [1]⟩, ⟨10, [10]⟩, ⟨11, [1]⟩]
set_option maxRecDepth 100000
theorem put_plain : fputR 300 1 0 20 2 1 0 10 1 1 0 5 0 0 2 = (l9, 0) := by kernel_rfl
theorem put_1 : fputR 300 1 0 20 2 1 0 10 1 1 0 5 0 0 1 = ([], 18) := by kernel_rfl
theorem put_4 : fputR 300 1 0 20 2 1 0 10 1 1 0 5 0 0 4 = ([], 1) := by kernel_rfl
theorem get_l9 : fgetR l9 = (plainL, 0) := by kernel_rfl
theorem get_130 : fgetR [⟨1, [1]⟩, ⟨130, []⟩] = (z15, 16) := by kernel_rfl
theorem get_14 : fgetR [⟨1, [1]⟩, ⟨14, []⟩] = (z15, 15) := by kernel_rfl
theorem get_0 : fgetR [⟨1, [0]⟩] = (z15, 14) := by kernel_rfl
theorem get_nil : fgetR [] = (z15, 12) := by kernel_rfl
theorem get_1 : fgetR [⟨1, [1]⟩] = (z15, 9) := by kernel_rfl
end Go.Proofs.Ytekgienbhpknlaa.G
end
section
namespace Go.Proofs.Ytekgienbhpknlaa.G
open Go Go.RowKit Go.Proofs.YtekgienbhpknlaaW.PrintWords Go.Proofs.YtekgienbhpknlaaW.PrintLast Go.Proofs.YtekgienbhpknlaaW.PrintMore
theorem any_order {P : Program} {md : Region.Mode} {ops : Array Oper} {Q : Exit → Act → World → Prop} {S : World → Prop} {fuel : Nat} {fin : Array Bool} (T : Array Bool → List Nat → Prop) (G : List Nat → Act → World → Prop) (hns : Region.noSelect ops = true)
    (hQ : ∀ c a d v w, Q (.panic c) (Act.put a d v) w → Q (.panic c) a w)
    (h0 : ∀ L, T L [] → L = fin)
    (hT : ∀ L is, T L is → is ≠ [] → Region.ready md ops L = is ∧ ∀ i ∈ is, Region.free md ops (L.setIfInBounds i true) (i + 1) = true ∧ (Region.ready md ops (L.setIfInBounds i true)).contains (i + 1) = true ∧ T ((L.setIfInBounds i true).setIfInBounds (i + 1) true) (is.erase i))
    (hfin : ∀ a w, G [] a w → S w → wpAnyH P md ops Q S fuel fin a w)
    (hstep : ∀ (rem : List Nat) (i : Nat), i ∈ rem → ∀ a w, G rem a w → S w → ∃ o o', ops[i]? = some o ∧ ops[i + 1]? = some o' ∧ ∀ K' : Act → World → Prop, (∀ a' w' v, YieldsIf P ops S o' v a' → G (rem.erase i) (a'.put o'.dst v) w' → S w' → K' a' w') → if Region.wanted o (yielded ops a.tmps) = true then Oper.wp P o a w K' Q else K' (a.put o.dst undef) w) :
    ∀ (n : Nat) (L : Array Bool) (is : List Nat) (a : Act) (w : World), is.length = n → T L is → G is a w → S w → wpAnyH P md ops Q S (fuel + 2 * n) L a w
  | 0, L, is, a, w, hl, ht, hG, hS => by
    obtain rfl := List.eq_nil_of_length_eq_zero hl
    obtain rfl := h0 L ht
    exact hfin a w hG hS
  | n + 1, L, is, a, w, hl, ht, hG, hS => by
    have hne : is ≠ [] := by intro h; subst h; simp at hl
    have hx := hT L is ht hne
    refine wpAnyH_all (fuel := fuel + 2 * n + 1) hx.1 hne fun i hi => ?_
    obtain ⟨o, o', ho, ho', h⟩ := hstep is i hi a w hG hS
    have hti := hx.2 i hi
    refine wpOp_step ho fun K' hK => h K' fun a' w' v hy hG' hS' => hK a' w' ⟨hS', ?_⟩
    exact wpAnyH_take ho' hns hti.1 hti.2.1 (fun c a w => hQ c a o'.dst v w) hy hS' (any_order T G hns hQ h0 hT hfin hstep n _ (is.erase i) _ w' (by rw [List.length_erase_of_mem hi, hl]; rfl) hti.2.2 hG' hS')
theorem yieldsIf_build2 {P : Program} {ops : Array Oper} {S : World → Prop} {op : Oper} {a : Act} (hw : Region.wanted op (yielded ops a.tmps) = true) (t : TypeId) (parts : Array (Nat × Operand)) (ho : op.op = .build t parts) (vs : List (Nat × Value)) (cs : Array Value)
    (he : (parts.map fun (i, x) => (i, a.eval x)).toList = vs) (hf : P.built t vs = some cs) : YieldsIf P ops S op (.agg cs) a :=
  .inl ⟨hw, fun w _ => by
    unfold execOp
    simp only [ho, Sem.run_bind, run_build w t _ cs (by rw [he]; exact hf), Result.andThen_ok]
    rfl⟩
end Go.Proofs.Ytekgienbhpknlaa.G
end
