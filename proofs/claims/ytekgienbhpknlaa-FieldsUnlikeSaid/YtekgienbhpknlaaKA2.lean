/- What the functions that this claim reaches do and answer: printed words and walks, walks by hand and plain laws, packed together, each with its own remark; printed rows are by the kit's print program, turned by this session. Conditions: those that each theorem states. -/
import Derived.ChangeSlices
import Derived.ChangeShapes
import Derived.ChangeSame
import Derived.WideShapes
import Derived.Test.YtekgienbhpknlaaKA1
import Derived.Test.YtekgienbhpknlaaKA0
section
namespace Go.Proofs.Ytekgienbhpknlaa.PL
open Go.RowKit Go.Proofs.YtekgienbhpknlaaW.PrintWords Go.Proofs.YtekgienbhpknlaaW.PrintLast Go.Proofs.YtekgienbhpknlaaW.PrintMore
attribute [local go_sem] max2_int min2_int max_two min_two max_three min_three max_four min_four   -- for this text's walks alone
set_option linter.unusedVariables false
set_option linter.unusedSimpArgs false

/-! ### bits_Get: function 38 -/
def bits_Get.l0 : Nat → Int → List Int → Int → Int → Option (Int × Int)
  | 0, _, _, _, _ => none
  | k + 1, x4, x10, x11, x12 => if x12 < x11 then (if 0 ≤ x12 then (if x12 < (x10.length : Int) then (bits_Get.l0 k (Go.bits .or .u64 (IntKind.u64.wrap (x4 * 256)) (IntKind.u64.wrap (rd x10 x12))) x10 x11 (wrap64 (x12 + 1))) else (none)) else (none)) else (if (x4 / 9223372036854775808) > 0 then (some (0, 23)) else (some (wrap64 (x4), 0)))
def bits_Get.f (k : Nat) (l0 : List Int) : Option (Int × Int) := if (l0.length : Int) > 8 then (some (0, 1)) else (bits_Get.l0 k 0 l0 (l0.length : Int) 0)
theorem bits_Get.mono_l : ∀ k, (∀ y0 y1 y2 y3, LeO (bits_Get.l0 k y0 y1 y2 y3) (bits_Get.l0 (k + 1) y0 y1 y2 y3))
  | 0 => fun _ _ _ _ r h => by simp [bits_Get.l0] at h
  | k + 1 => by
    have ih0 := bits_Get.mono_l k
    · intro y0 y1 y2 y3
      unfold bits_Get.l0
      repeat' first
      | (with_reducible exact ih0 _ _ _ _)
      | (with_reducible exact LeO.refl _)
      | (with_reducible exact LeO.none _)
      | (with_reducible refine LeO.ite ?_ ?_)
      | (with_reducible refine LeO.bind ?_ (fun _ => ?_))
      | exact ih0 _ _ _ _
      | exact LeO.none _
      | refine LeO.ite ?_ ?_
      | refine LeO.bind ?_ (fun _ => ?_)
theorem bits_Get.mono : ∀ a0 k, LeO (bits_Get.f k a0) (bits_Get.f (k + 1) a0) := by
  intro a0 k
  have ih0 := bits_Get.mono_l k
  unfold bits_Get.f
  repeat' first
      | (with_reducible exact ih0 _ _ _ _)
      | (with_reducible exact LeO.refl _)
      | (with_reducible exact LeO.none _)
      | (with_reducible refine LeO.ite ?_ ?_)
      | (with_reducible refine LeO.bind ?_ (fun _ => ?_))
      | exact ih0 _ _ _ _
      | exact LeO.none _
      | refine LeO.ite ?_ ?_
      | refine LeO.bind ?_ (fun _ => ?_)
set_option maxHeartbeats 8000000 in
set_option maxRecDepth 100000 in
theorem bits_Get.calls (k : Nat) (A0 : Option Addr) (c0 : Nat) (l0 : List Int) (r1 : Int) (r2 : Int) (w : World) (hr0 : Kd.C (Kd.int .u8) w A0 l0.length l0) (hc0 : l0.length ≤ c0) (h : bits_Get.f k l0 = some (r1, r2)) :
    Calls Try.prog 38 #[.slice A0 l0.length c0] w fun e w' => e = .returned (.tuple #[.int .i64 r1, .int .i64 r2]) ∧ Drawn0 w w' := by
  have HR0 := Aside0.mk hr0
  have HC0 := Aside0.mk hc0
  clear hr0 hc0
  have H : (if (l0.length : Int) > 8 then (some (0, 1)) else (bits_Get.l0 k 0 l0 (l0.length : Int) 0)) = some (r1, r2) := h
  clear h
  by_cases c2 : (l0.length : Int) > 8
  · rw [if_pos c2] at H
    have c2b0 : decide (8 < (l0.length : Int)) = true := decide_eq_true c2
    have c2b1 : decide (8 < l0.length) = true := decide_eq_true (by omega)
    clear c2
    simp only [Option.some.injEq, Prod.mk.injEq] at H
    obtain ⟨rfl, rfl⟩ := H
    go_enter Try.func38, Try.ntmps38
    go_wp2
    go_ret2
    exact ⟨by first | rfl | (simp; done) | (simp [*]; done), by repeat (first | exact Drawn0.refl _ | apply Drawn0.step)⟩
  · rw [if_neg c2] at H
    have c2b0 : decide (8 < (l0.length : Int)) = false := decide_eq_false c2
    have c2b1 : decide (8 < l0.length) = false := decide_eq_false (by omega)
    clear c2
    have H' := Aside0.mk H
    clear H
    go_enter Try.func38, Try.ntmps38
    go_wp2
    go_loopg [4, 12] k (fun kq v4 v12 w' => ∃ (x4_1 : Int) (x12_1 : Int), v4 = .int .u64 x4_1 ∧ v12 = .int .i64 x12_1 ∧ Aside0 (bits_Get.l0 kq x4_1 l0 (l0.length : Int) x12_1 = some (r1, r2)) ∧ Aside0 (kq ≤ k) ∧ Drawn0 w w')
    case atStart => exact ⟨(0), (0), (by first | rfl | (simp; done) | (simp [*]; done)), (by first | rfl | (simp; done) | (simp [*]; done)), H', ⟨Nat.le_refl _⟩, by repeat (first | exact Drawn0.refl _ | apply Drawn0.step)⟩
    case round =>
      clear H'
      try clear c2
      try clear c2b0
      try clear c2b1
      try clear p2
      obtain ⟨x4_1, x12_1, rfl, rfl, HA, HK1, ⟨m1, rfl⟩⟩ := hrel
      cases gk with
      | zero => exact absurd HA.out (by simp [bits_Get.l0])
      | succ k1 =>
        have H := HA.out
        clear HA
        simp only [bits_Get.l0] at H
        by_cases c3 : x12_1 < (l0.length : Int)
        · rw [if_pos c3] at H
          have c3b0 : decide (x12_1 < (l0.length : Int)) = true := decide_eq_true c3
          clear c3
          by_cases c4 : 0 ≤ x12_1
          · rw [if_pos c4] at H
            have c4b0 : decide (0 ≤ x12_1) = true := decide_eq_true c4
            clear c4
            by_cases c5 : x12_1 < (l0.length : Int)
            · rw [if_pos c5] at H
              have c5b0 : decide (x12_1 < (l0.length : Int)) = true := decide_eq_true c5
              clear c5
              have H' := Aside0.mk H
              clear H
              have p134 : 0 ≤ (x12_1 : Int) := of_decide_eq_true (by first | (with_reducible assumption) | assumption)
              have q134 : x12_1 < (l0.length : Int) := of_decide_eq_true (by first | (with_reducible assumption) | assumption)
              obtain ⟨ad134, e134, hx134_0⟩ := Kd.at_int HR0.out x12_1 p134 q134
              cases e134
              replace p134 := eq_true p134
              replace q134 := eq_true q134
              go_wp2
              go_roundg k1
              case measure => have := HK1.out; omega
              case rel => exact ⟨(Go.bits .or .u64 (IntKind.u64.wrap (x4_1 * 256)) (IntKind.u64.wrap (rd l0 x12_1))), (wrap64 (x12_1 + 1)), (by first | rfl | (simp; done) | (simp [*]; done)), (by first | rfl | (simp; done) | (simp [*]; done)), H', ⟨by have := HK1.out; omega⟩, by repeat (first | exact Drawn0.refl _ | apply Drawn0.step)⟩
            · rw [if_neg c5] at H
              exact absurd H (by simp)
          · rw [if_neg c4] at H
            exact absurd H (by simp)
        · rw [if_neg c3] at H
          have c3b0 : decide (x12_1 < (l0.length : Int)) = false := decide_eq_false c3
          clear c3
          by_cases c6 : (x4_1 / 9223372036854775808) > 0
          · rw [if_pos c6] at H
            have c6b0 : decide (0 < (x4_1 / 9223372036854775808)) = true := decide_eq_true c6
            clear c6
            simp only [Option.some.injEq, Prod.mk.injEq] at H
            obtain ⟨rfl, rfl⟩ := H
            go_wp2
            go_ret2
            exact ⟨by first | rfl | (simp; done) | (simp [*]; done), by repeat (first | exact Drawn0.refl _ | apply Drawn0.step)⟩
          · rw [if_neg c6] at H
            have c6b0 : decide (0 < (x4_1 / 9223372036854775808)) = false := decide_eq_false c6
            clear c6
            simp only [Option.some.injEq, Prod.mk.injEq] at H
            obtain ⟨rfl, rfl⟩ := H
            go_wp2
            go_ret2
            exact ⟨by first | rfl | (simp; done) | (simp [*]; done), by repeat (first | exact Drawn0.refl _ | apply Drawn0.step)⟩

/-! ### tlv_Value: function 26 -/
def tlv_Value.f (k : Nat) (l0 : List Int) : Option (Int × Int) := if (l0.length : Int) < 1 then (some (0, 14)) else (if (l0.length : Int) > 7 then (some (0, 14)) else (if 0 < (l0.length : Int) then (if (rd l0 0) = 0 then (some (0, 14)) else ((bits_Get.f k l0).bind fun bt136 => (some (bt136.1, bt136.2)))) else (none)))
theorem tlv_Value.mono : ∀ a0 k, LeO (tlv_Value.f k a0) (tlv_Value.f (k + 1) a0) := by
  intro a0 k
  unfold tlv_Value.f
  repeat' first
      | (with_reducible exact bits_Get.mono _ _)
      | (with_reducible exact LeO.refl _)
      | (with_reducible exact LeO.none _)
      | (with_reducible refine LeO.ite ?_ ?_)
      | (with_reducible refine LeO.bind ?_ (fun _ => ?_))
      | exact bits_Get.mono _ _
      | exact LeO.none _
      | refine LeO.ite ?_ ?_
      | refine LeO.bind ?_ (fun _ => ?_)
set_option maxHeartbeats 8000000 in
set_option maxRecDepth 100000 in
theorem tlv_Value.calls (k : Nat) (A0 : Option Addr) (c0 : Nat) (l0 : List Int) (r1 : Int) (r2 : Int) (w : World) (hr0 : Kd.C (Kd.int .u8) w A0 l0.length l0) (hc0 : l0.length ≤ c0) (h : tlv_Value.f k l0 = some (r1, r2)) :
    Calls Try.prog 26 #[.slice A0 l0.length c0] w fun e w' => e = .returned (.tuple #[.int .i64 r1, .int .i64 r2]) ∧ Drawn0 w w' := by
  have HR0 := Aside0.mk hr0
  have HC0 := Aside0.mk hc0
  clear hr0 hc0
  have H : (if (l0.length : Int) < 1 then (some (0, 14)) else (if (l0.length : Int) > 7 then (some (0, 14)) else (if 0 < (l0.length : Int) then (if (rd l0 0) = 0 then (some (0, 14)) else ((bits_Get.f k l0).bind fun bt136 => (some (bt136.1, bt136.2)))) else (none)))) = some (r1, r2) := h
  clear h
  by_cases c2 : (l0.length : Int) < 1
  · rw [if_pos c2] at H
    have c2b0 : decide ((l0.length : Int) < 1) = true := decide_eq_true c2
    have c2b1 : decide (l0.length < 1) = true := decide_eq_true (by omega)
    clear c2
    simp only [Option.some.injEq, Prod.mk.injEq] at H
    obtain ⟨rfl, rfl⟩ := H
    go_enter Try.func26, Try.ntmps26
    go_wp2
    go_ret2
    exact ⟨by first | rfl | (simp; done) | (simp [*]; done), by repeat (first | exact Drawn0.refl _ | apply Drawn0.step)⟩
  · rw [if_neg c2] at H
    have c2b0 : decide ((l0.length : Int) < 1) = false := decide_eq_false c2
    have c2b1 : decide (l0.length < 1) = false := decide_eq_false (by omega)
    clear c2
    by_cases c3 : (l0.length : Int) > 7
    · rw [if_pos c3] at H
      have c3b0 : decide (7 < (l0.length : Int)) = true := decide_eq_true c3
      have c3b1 : decide (7 < l0.length) = true := decide_eq_true (by omega)
      clear c3
      simp only [Option.some.injEq, Prod.mk.injEq] at H
      obtain ⟨rfl, rfl⟩ := H
      go_enter Try.func26, Try.ntmps26
      go_wp2
      go_ret2
      exact ⟨by first | rfl | (simp; done) | (simp [*]; done), by repeat (first | exact Drawn0.refl _ | apply Drawn0.step)⟩
    · rw [if_neg c3] at H
      have c3b0 : decide (7 < (l0.length : Int)) = false := decide_eq_false c3
      have c3b1 : decide (7 < l0.length) = false := decide_eq_false (by omega)
      clear c3
      by_cases c4 : 0 < (l0.length : Int)
      · rw [if_pos c4] at H
        have c4b0 : decide (0 < (l0.length : Int)) = true := decide_eq_true c4
        have c4b1 : decide (0 < l0.length) = true := decide_eq_true (by omega)
        clear c4
        by_cases c5 : (rd l0 0) = 0
        · rw [if_pos c5] at H
          have c5b0 : ((rd l0 0) == 0) = true := beq_iff_eq.mpr c5
          have c5b1 : ((rd l0 0) != 0) = false := bne_eq_false_iff_eq.mpr c5
          clear c5
          simp only [Option.some.injEq, Prod.mk.injEq] at H
          obtain ⟨rfl, rfl⟩ := H
          have p135 : 0 ≤ (0 : Int) := (by omega)
          have q135 : 0 < (l0.length : Int) := of_decide_eq_true (by first | (with_reducible assumption) | assumption)
          obtain ⟨ad135, e135, hx135_0⟩ := Kd.at_int HR0.out 0 p135 q135
          cases e135
          have qi135 : (0 < l0.length) = True := eq_true (by omega)
          (try rw [show ((0 : Int)).toNat = 0 from rfl] at hx135_0)
          (try rw [Addr.add_zero'] at hx135_0)
          replace p135 := eq_true p135
          replace q135 := eq_true q135
          go_enter Try.func26, Try.ntmps26
          go_wp2
          go_ret2
          exact ⟨by first | rfl | (simp; done) | (simp [*]; done), by repeat (first | exact Drawn0.refl _ | apply Drawn0.step)⟩
        · rw [if_neg c5] at H
          have c5b0 : ((rd l0 0) == 0) = false := beq_eq_false_iff_ne.mpr c5
          have c5b1 : ((rd l0 0) != 0) = true := bne_iff_ne.mpr c5
          replace H := Option.bind_eq_some_iff.mp H
          obtain ⟨⟨t136, t137⟩, A60, H⟩ := H
          replace H : (some (t136, t137)) = some (r1, r2) := H
          have A6 := Aside0.mk A60
          clear A60
          simp only [Option.some.injEq, Prod.mk.injEq] at H
          obtain ⟨rfl, rfl⟩ := H
          have p135 : 0 ≤ (0 : Int) := (by omega)
          have q135 : 0 < (l0.length : Int) := of_decide_eq_true (by first | (with_reducible assumption) | assumption)
          obtain ⟨ad135, e135, hx135_0⟩ := Kd.at_int HR0.out 0 p135 q135
          cases e135
          have qi135 : (0 < l0.length) = True := eq_true (by omega)
          (try rw [show ((0 : Int)).toNat = 0 from rfl] at hx135_0)
          (try rw [Addr.add_zero'] at hx135_0)
          replace p135 := eq_true p135
          replace q135 := eq_true q135
          go_enter Try.func26, Try.ntmps26
          go_wp2_with (first | ((with_reducible refine gate_callee (f := 38) rfl ?_); refine goesL_ (some 19) rfl rfl Try.func38 (by kernel_rfl) rfl #[.slice (some ad135) l0.length c0] rfl (by (try simp only [List.map_toArray, List.map_cons, List.map_nil]); first | done | rfl | (simp only [List.length_drop, List.length_take]; rfl)) ?_; (with_reducible refine (bits_Get.calls k _ _ l0 t136 t137 _ ?side1 ?side2 A6.out).mono ?_); (case side1 => repeat (first | exact HR0.out | (with_reducible refine Kd.C_alloc ?_ _) | (with_reducible refine Kd.C_drewN ?_ _) | (with_reducible refine Kd.C_drew ?_))); (case side2 => exact HC0.out); rintro e w' ⟨rfl, ⟨nd, rfl⟩⟩; refine ⟨_, rfl, ?_⟩; (try clear A6)))
          go_ret2
          exact ⟨by first | rfl | (simp; done) | (simp [*]; done), by repeat (first | exact Drawn0.refl _ | apply Drawn0.step)⟩
      · rw [if_neg c4] at H
        exact absurd H (by simp)

end Go.Proofs.Ytekgienbhpknlaa.PL
end
section
namespace Go.Proofs.Ytekgienbhpknlaa.Q
open Go Go.RowKit Go.Proofs.Ytekgienbhpknlaa.PL Go.Proofs.YtekgienbhpknlaaW.PrintWords Go.Proofs.YtekgienbhpknlaaW.PrintLast Go.Proofs.YtekgienbhpknlaaW.PrintMore

/-! ### bytes as a number -/
def val (l : List Int) : Int := l.foldl (fun a x => 256 * a + x) 0
theorem val_snoc (l : List Int) (x : Int) : val (l ++ [x]) = 256 * val l + x := by simp [val]
theorem val_take (l : List Int) (hl : IsBytes l) : ∀ n, n ≤ l.length → 0 ≤ val (l.take n) ∧ val (l.take n) < ((256 ^ n : Nat) : Int)
  | 0, _ => by simp [val]
  | n + 1, h => by
    have ih := val_take l hl n (by omega)
    have hx := hl.getD n
    rw [take_snoc l n (by omega), val_snoc, Nat.pow_succ]
    omega
theorem val_bound (l : List Int) (hl : IsBytes l) : 0 ≤ val l ∧ val l < ((256 ^ l.length : Nat) : Int) := by
  have := val_take l hl l.length (Nat.le_refl _)
  rwa [List.take_length] at this
theorem val_acc (l : List Int) : ∀ a : Int, l.foldl (fun a x => 256 * a + x) a = a * ((256 ^ l.length : Nat) : Int) + val l := by
  induction l with
  | nil => intro a; simp [val]
  | cons x l ih =>
    intro a
    have h1 := ih (256 * a + x)
    have h2 := ih (256 * 0 + x)
    have h3 : val (x :: l) = l.foldl (fun a x => 256 * a + x) (256 * 0 + x) := rfl
    rw [h3, List.foldl_cons, h1, h2, List.length_cons, Nat.pow_succ, Int.natCast_mul, Int.add_mul, Int.mul_comm 256 a, Int.mul_assoc]
    simp only [Int.mul_zero, Int.zero_add]
    rw [Int.mul_comm ((256 ^ l.length : Nat) : Int) ((256 : Nat) : Int), show ((256 : Nat) : Int) = 256 from rfl]
    omega
theorem val_cons (x : Int) (l : List Int) : val (x :: l) = x * ((256 ^ l.length : Nat) : Int) + val l := by
  have h := val_acc l (256 * 0 + x)
  have h3 : val (x :: l) = l.foldl (fun a x => 256 * a + x) (256 * 0 + x) := rfl
  rw [h3, h]
  simp
def getR (l : List Int) : Int × Int := if l.length > 8 then (0, 1) else if val l ≥ 9223372036854775808 then (0, 23) else (val l, 0)
theorem pow256_7 : (256 ^ 7 : Nat) = 72057594037927936 := rfl
theorem pow256_8 : (256 ^ 8 : Nat) = 18446744073709551616 := rfl
theorem get_l0 (l : List Int) (hl : IsBytes l) (h8 : l.length ≤ 8) (d : Nat) : ∀ (k i : Nat), l.length - i = d → i ≤ l.length → d < k →
    bits_Get.l0 k (val (l.take i)) l (l.length : Int) (i : Int) = if val l / 9223372036854775808 > 0 then some (0, 23) else some (wrap64 (val l), 0) := by
  induction d with
  | zero =>
    intro k i hd hi hk
    obtain ⟨k, rfl⟩ : ∃ m, k = m + 1 := ⟨k - 1, by omega⟩
    have c : ¬ (i : Int) < (l.length : Int) := by omega
    rw [bits_Get.l0, if_neg c, show i = l.length by omega, List.take_length]
  | succ d ih =>
    intro k i hd hi hk
    obtain ⟨k, rfl⟩ : ∃ m, k = m + 1 := ⟨k - 1, by omega⟩
    have c1 : (i : Int) < (l.length : Int) := by omega
    have c2 : (0 : Int) ≤ (i : Int) := by omega
    have hi1 : i ≤ 9223372036854775806 := by omega
    have hr : rd l (i : Int) = l.getD i 0 := by simp [rd]
    have hv := val_take l hl i (by omega)
    have hx := hl.getD i
    have hp : 256 ^ i ≤ 256 ^ 7 := Nat.pow_le_pow_right (by decide) (by omega)
    rw [pow256_7] at hp
    have hor : Go.bits .or .u64 (IntKind.u64.wrap (val (l.take i) * 256)) (IntKind.u64.wrap (l.getD i 0)) = val (l.take (i + 1)) := by
      rw [take_snoc l i (by omega), val_snoc]
      have e1 : IntKind.u64.wrap (val (l.take i) * 256) = val (l.take i) * 256 := by show (val (l.take i) * 256) % 18446744073709551616 = _; omega
      have e2 : IntKind.u64.wrap (l.getD i 0) = l.getD i 0 := by show (l.getD i 0) % 18446744073709551616 = _; omega
      rw [e1, e2, or_u64 8 256 (by decide) (by decide) (val (l.take i) * 256) (l.getD i 0) (by omega) (by omega) (by omega) (by omega) (by omega), Int.mul_comm]
    have := ih k (i + 1) (by omega) (by omega) (by omega)
    rw [bits_Get.l0, if_pos c1, if_pos c2, if_pos c1, hr, hor, w64_succ i hi1]
    exact this
theorem get_val (l : List Int) (hl : IsBytes l) (h8 : l.length ≤ 8) : (if val l / 9223372036854775808 > 0 then some ((0 : Int), (23 : Int)) else some (wrap64 (val l), 0)) = some (getR l) := by
  have hb := val_bound l hl
  unfold getR
  have c : ¬ l.length > 8 := by omega
  simp only [if_neg c]
  clear c
  by_cases h : val l ≥ 9223372036854775808
  · rw [if_pos (by omega), if_pos h]
  · rw [if_neg (by omega), if_neg h, w64 (by omega) (by omega)]
theorem get_ev (l : List Int) (hl : IsBytes l) : Ev (fun k => bits_Get.f k l) (getR l) := by
  refine ⟨10, fun k hk => ?_⟩
  show bits_Get.f k l = _
  unfold bits_Get.f
  by_cases h : l.length > 8
  · rw [if_pos (by omega)]
    unfold getR
    rw [if_pos h]
  · rw [if_neg (by omega)]
    have := get_l0 l hl (by omega) l.length k 0 (by omega) (by omega) (by omega)
    rw [← get_val l hl (by omega)]
    exact this

/-! ### a number as bytes -/
def be (n : Int) : Nat → List Int
  | 0 => []
  | s + 1 => (n / ((256 ^ s : Nat) : Int) % 256) :: be n s
theorem be_length (n : Int) : ∀ s, (be n s).length = s
  | 0 => rfl
  | s + 1 => by rw [be, List.length_cons, be_length n s]
theorem be_isBytes (n : Int) : ∀ s, IsBytes (be n s)
  | 0 => fun x hx => by cases hx
  | s + 1 => fun x hx => by
    rcases List.mem_cons.1 hx with rfl | hx
    · omega
    · exact be_isBytes n s x hx
theorem val_be (N : Nat) : ∀ s, val (be (N : Int) s) = ((N % 256 ^ s : Nat) : Int)
  | 0 => by simp [be, val, Nat.mod_one]
  | s + 1 => by
    have e : ((N : Int) / ((256 ^ s : Nat) : Int) % 256) = ((N / 256 ^ s % 256 : Nat) : Int) := by rw [Int.natCast_emod, Int.natCast_ediv]; rfl
    rw [be, val_cons, be_length, val_be N s, e, Nat.mod_pow_succ, ← Int.natCast_mul, ← Int.natCast_add, Nat.mul_comm, Nat.add_comm]
def putR (n size : Int) : List Int × Int :=
  if size < 0 ∨ size > 8 ∨ n < 0 then ([], 1) else if size < 8 ∧ n / ((256 ^ size.toNat : Nat) : Int) > 0 then ([], 23) else (be n size.toNat, 0)
theorem shr_lit (n c : Int) (j : Nat) (h : c = (j : Int)) (hj : j ≤ 64) : shr .i64 n c = n / ((2 ^ j : Nat) : Int) := by
  subst h
  unfold shr
  rw [Int.toNat_natCast, Nat.min_eq_left (by exact hj), Int.natCast_pow]
  rfl
theorem put_l0 (n : Int) (s : Nat) (hs : s ≤ 8) (d : Nat) : ∀ (k i : Nat) (x6 : List Int), s - i = d → i ≤ s → x6.length = s → (∀ j, s - i ≤ j → j < s → x6[j]? = some (n / ((256 ^ (s - 1 - j) : Nat) : Int) % 256)) → d < k →
    bits_Put.l0 k n (s : Int) x6 (s : Int) (i : Int) = some (be n s, 0) := by
  induction d with
  | zero =>
    intro k i x6 hd hi hx hw hk
    obtain ⟨k, rfl⟩ : ∃ m, k = m + 1 := ⟨k - 1, by omega⟩
    have c : ¬ (i : Int) < (s : Int) := by omega
    rw [bits_Put.l0, if_neg c]
    have hbe : ∀ s j, j < s → (be n s)[j]? = some (n / ((256 ^ (s - 1 - j) : Nat) : Int) % 256) := by
      intro s
      induction s with
      | zero => intro j hj; omega
      | succ s ihs =>
        intro j hj
        rw [be]
        cases j with
        | zero => simp
        | succ j =>
          rw [List.getElem?_cons_succ, ihs j (by omega), show s + 1 - 1 - (j + 1) = s - 1 - j by omega]
    have : x6 = be n s := by
      apply List.ext_getElem?
      intro j
      rcases Nat.lt_or_ge j s with hj | hj
      · rw [hw j (by omega) hj, hbe s j hj]
      · rw [List.getElem?_eq_none (by omega), List.getElem?_eq_none (by rw [be_length]; omega)]
    rw [this]
  | succ d ih =>
    intro k i x6 hd hi hx hw hk
    obtain ⟨k, rfl⟩ : ∃ m, k = m + 1 := ⟨k - 1, by omega⟩
    have c1 : (i : Int) < (s : Int) := by omega
    have c2 : (0 : Int) ≤ ((8 * i : Nat) : Int) := by omega
    have c3 : (0 : Int) ≤ ((s - 1 - i : Nat) : Int) := by omega
    have c4 : ((s - 1 - i : Nat) : Int) < (x6.length : Int) := by omega
    have e1 : IntKind.u64.wrap (8 * IntKind.u64.wrap (i : Int)) = ((8 * i : Nat) : Int) := by show (8 * ((i : Int) % 18446744073709551616)) % 18446744073709551616 = _; omega
    have e2 : wrap64 (wrap64 ((s : Int) - 1) - (i : Int)) = ((s - 1 - i : Nat) : Int) := by rw [w64 (x := (s : Int) - 1) (by omega) (by omega), w64 (by omega) (by omega)]; omega
    have e3 : shr .i64 n ((8 * i : Nat) : Int) % 256 = n / ((256 ^ i : Nat) : Int) % 256 := by rw [shr_lit n _ (8 * i) rfl (by omega), Nat.pow_mul]
    have hi1 : i ≤ 9223372036854775806 := by omega
    have := ih k (i + 1) (x6.set (s - 1 - i) (n / ((256 ^ i : Nat) : Int) % 256)) (by omega) (by omega) (by simp [hx]) (by
      clear e1 e2 e3
      intro j hj1 hj2
      rw [List.getElem?_set]
      by_cases h : s - 1 - i = j
      · rw [if_pos h, if_pos (by omega), show s - 1 - j = i by omega]
      · rw [if_neg h]
        exact hw j (by omega) hj2) (by omega)
    rw [bits_Put.l0, if_pos c1, e1, if_pos c2, e2, if_pos c3, if_pos c4, e3, Int.toNat_natCast, w64_succ i hi1]
    exact this
theorem put_j1 (n : Int) (s : Nat) (hs : s ≤ 8) (k : Nat) (hk : 10 ≤ k) : bits_Put.j1 k n (s : Int) = some (be n s, 0) := by
  obtain ⟨k, rfl⟩ : ∃ m, k = m + 1 := ⟨k - 1, by omega⟩
  have c1 : (0 : Int) ≤ (s : Int) := by omega
  have c2 : s ≤ 281474976710656 := by omega
  rw [bits_Put.j1, if_pos c1, Int.toNat_natCast, if_pos c2]
  exact put_l0 n s hs s k 0 _ (by omega) (by omega) (by simp) (fun j h1 h2 => by omega) (by omega)
theorem put_ev (n size : Int) : Ev (fun k => bits_Put.f k n size) (putR n size) := by
  refine ⟨12, fun k hk => ?_⟩
  show bits_Put.f k n size = _
  have jt : bits_Put.j0 k n size true = some ([], 1) := by
    obtain ⟨k, rfl⟩ : ∃ m, k = m + 1 := ⟨k - 1, by omega⟩
    rw [bits_Put.j0, if_pos rfl]
  unfold bits_Put.f putR
  by_cases c1 : size < 0
  · rw [if_pos c1, if_pos (by omega), jt]
  by_cases c2 : size > 8
  · rw [if_neg c1, if_pos c2, if_pos (by omega), jt]
  by_cases c3 : n < 0
  · rw [if_neg c1, if_neg c2, if_pos (by omega), decide_eq_true c3, jt]
  rw [if_neg c1, if_neg c2, if_neg (by omega), decide_eq_false c3]
  obtain ⟨k, rfl⟩ : ∃ m, k = m + 1 := ⟨k - 1, by omega⟩
  obtain ⟨s, rfl⟩ : ∃ s : Nat, size = (s : Int) := ⟨size.toNat, by omega⟩
  have hs : s ≤ 8 := by omega
  have d1 := put_j1 n s hs k (by omega)
  rw [bits_Put.j0, if_neg (by decide), d1, Int.toNat_natCast]
  by_cases c4 : (s : Int) < 8
  · have e1 : IntKind.u64.wrap (8 * IntKind.u64.wrap (s : Int)) = ((8 * s : Nat) : Int) := by show (8 * ((s : Int) % 18446744073709551616)) % 18446744073709551616 = _; omega
    have c5 : (0 : Int) ≤ ((8 * s : Nat) : Int) := by omega
    have e3 : shr .i64 n ((8 * s : Nat) : Int) = n / ((256 ^ s : Nat) : Int) := by rw [shr_lit n _ (8 * s) rfl (by omega), Nat.pow_mul]
    rw [if_pos c4, e1, if_pos c5, e3]
    by_cases c6 : n / ((256 ^ s : Nat) : Int) > 0
    · rw [if_pos c6, if_pos ⟨c4, c6⟩]
    · rw [if_neg c6, if_neg (fun h => c6 h.2)]
  · rw [if_neg c4, if_neg (fun h => c4 h.1)]
/-- What was put is got again. -/
theorem get_put (n size : Int) (hn : n ≤ 9223372036854775807) (h : (putR n size).2 = 0) : getR (putR n size).1 = (n, 0) ∧ ((putR n size).1.length : Int) = size ∧ IsBytes (putR n size).1 := by
  unfold putR at h ⊢
  by_cases c1 : size < 0 ∨ size > 8 ∨ n < 0
  · rw [if_pos c1] at h; cases h
  · rw [if_neg c1] at h ⊢
    by_cases c2 : size < 8 ∧ n / ((256 ^ size.toNat : Nat) : Int) > 0
    · rw [if_pos c2] at h; cases h
    · rw [if_neg c2]
      obtain ⟨s, rfl⟩ : ∃ s : Nat, size = (s : Int) := ⟨size.toNat, by omega⟩
      obtain ⟨N, rfl⟩ : ∃ N : Nat, n = (N : Int) := ⟨n.toNat, by omega⟩
      simp only [Int.toNat_natCast] at c2 ⊢
      have hlt : N < 256 ^ s := by
        by_cases h8 : s = 8
        · subst h8; rw [pow256_8]; omega
        · have h9 : ¬ ((N : Int) / ((256 ^ s : Nat) : Int) > 0) := fun z => c2 ⟨by omega, z⟩
          rcases Nat.lt_or_ge N (256 ^ s) with hz | hz
          · exact hz
          · exfalso
            apply h9
            rw [← Int.natCast_ediv]
            have := Nat.div_pos hz (Nat.pow_pos (by decide))
            omega
      refine ⟨?_, by rw [be_length], be_isBytes _ _⟩
      unfold getR
      rw [be_length, if_neg (by omega), val_be, Nat.mod_eq_of_lt hlt, if_neg (by omega)]
end Go.Proofs.Ytekgienbhpknlaa.Q
end
section
namespace Go.Proofs.Ytekgienbhpknlaa.PL
open Go.RowKit Go.Proofs.YtekgienbhpknlaaW.PrintWords Go.Proofs.YtekgienbhpknlaaW.PrintLast Go.Proofs.YtekgienbhpknlaaW.PrintMore
attribute [local go_sem] max2_int min2_int max_two min_two max_three min_three max_four min_four   -- for this text's walks alone
set_option linter.unusedVariables false
set_option linter.unusedSimpArgs false

/-! ### gatelineref17_Number: function 25 -/
def gatelineref17_Number.l0 : Nat → Int → List Int → Option (List Int × Int)
  | 0, _, _ => none
  | k + 1, x0, x4 => if x0 > 0 then ((some (([(Int.tmod x0 256) % 256] : List Int) : List Int)).bind fun y215 => (if y215.length + x4.length < 140737488355328 then (gatelineref17_Number.l0 k (wrap64 (Int.tdiv x0 256)) (y215 ++ x4)) else (none))) else (some (x4, 0))
def gatelineref17_Number.f (k : Nat) (a0 : Int) : Option (List Int × Int) := if a0 < 0 then (some (([] : List Int), 1)) else (gatelineref17_Number.l0 k a0 (([] : List Int)))
theorem gatelineref17_Number.mono_l : ∀ k, (∀ y0 y1, LeO (gatelineref17_Number.l0 k y0 y1) (gatelineref17_Number.l0 (k + 1) y0 y1))
  | 0 => fun _ _ r h => by simp [gatelineref17_Number.l0] at h
  | k + 1 => by
    have ih0 := gatelineref17_Number.mono_l k
    · intro y0 y1
      unfold gatelineref17_Number.l0
      repeat' first
      | (with_reducible exact ih0 _ _)
      | (with_reducible exact LeO.refl _)
      | (with_reducible exact LeO.none _)
      | (with_reducible refine LeO.ite ?_ ?_)
      | (with_reducible refine LeO.bind ?_ (fun _ => ?_))
      | exact ih0 _ _
      | exact LeO.none _
      | refine LeO.ite ?_ ?_
      | refine LeO.bind ?_ (fun _ => ?_)
theorem gatelineref17_Number.mono : ∀ a0 k, LeO (gatelineref17_Number.f k a0) (gatelineref17_Number.f (k + 1) a0) := by
  intro a0 k
  have ih0 := gatelineref17_Number.mono_l k
  unfold gatelineref17_Number.f
  repeat' first
      | (with_reducible exact ih0 _ _)
      | (with_reducible exact LeO.refl _)
      | (with_reducible exact LeO.none _)
      | (with_reducible refine LeO.ite ?_ ?_)
      | (with_reducible refine LeO.bind ?_ (fun _ => ?_))
      | exact ih0 _ _
      | exact LeO.none _
      | refine LeO.ite ?_ ?_
      | refine LeO.bind ?_ (fun _ => ?_)
set_option maxHeartbeats 8000000 in
set_option maxRecDepth 100000 in
theorem gatelineref17_Number.calls (k : Nat) (a0 : Int) (r1 : List Int) (r2 : Int) (w : World) (h : gatelineref17_Number.f k a0 = some (r1, r2)) :
    Calls Try.prog 25 #[.int .i64 a0] w fun e w' => ∃ v0_ : Value, e = .returned (.tuple #[v0_, .int .i64 r2]) ∧ Kd.R (Kd.int .u8) 5 w' w.heap.size (fun _ => True) v0_ r1 ∧ Below w.heap.size w w' := by
  have HB := Aside0.mk (Below.refl w.heap.size w)
  have H : (if a0 < 0 then (some (([] : List Int), 1)) else (gatelineref17_Number.l0 k a0 (([] : List Int)))) = some (r1, r2) := h
  clear h
  by_cases c2 : a0 < 0
  · rw [if_pos c2] at H
    have c2b0 : decide (a0 < 0) = true := decide_eq_true c2
    clear c2
    simp only [Option.some.injEq, Prod.mk.injEq] at H
    obtain ⟨rfl, rfl⟩ := H
    go_enter Try.func25, Try.ntmps25
    go_wp2
    go_ret2
    exact ⟨_, by first | rfl | (simp [errW_none, errW_some] <;> rfl) | (simp [*, errW_none, errW_some] <;> rfl), by first | exact Kd.R_nil _ _ _ _ _ | exact Kd.N_nil _ _ _ _ _ | exact Kd.V_nil _ _ _ _ _ | exact Kd.Q_nil _ _ _ _ _ | exact Kd.S_nil _ _ _ _ _, by repeat (first | (with_reducible first | exact HB.out | apply below_alloc | apply pw_below_drewN | apply below_drew1) | exact HB.out)⟩
  · rw [if_neg c2] at H
    have c2b0 : decide (a0 < 0) = false := decide_eq_false c2
    clear c2
    obtain ⟨y212, hy212⟩ : ∃ y_ : List Int, y_ = (([] : List Int)) := ⟨_, rfl⟩
    replace H : (gatelineref17_Number.l0 k a0 y212) = some (r1, r2) := by first | (rw [hy212]; with_reducible exact H) | (have H2_ := (Option.bind_some _ _).symm.trans H; rw [hy212]; with_reducible exact H2_) | (have H2_ := (Option.bind_some _ _).symm.trans H; with_reducible exact H2_) | with_reducible exact H | (rw [hy212]; exact H) | exact H
    have Ny212 := Aside0.mk hy212
    clear hy212
    have H' := Aside0.mk H
    clear H
    go_enter Try.func25, Try.ntmps25
    go_wp2_with (first | ((with_reducible refine gate_dst (N := 8) rfl ?_); refine Kd.R_lit (Kd.int .u8) _ 5 ?hg (N := 8) ?hd (xs := ([] : List Int)) (inner := []) (ok := fun _ => True) (okp := fun _ => True) ?hr ?hp (fun _ hk => hk) trivial (Below.refl _ _) (Nat.le_refl _) (by simp) ?_; (case hd => rfl); (case hg => rfl); (case hr => first | (go_simp; done) | (go_simp; rfl) | (go_simp; simp [gm_u8, gm_u32, gm_tmod]; done)); (case hp => exact (Reps.none _ _)); intro v213 w3 ho4 hb hg_ hnew_; clear hg_ hnew_; (first | rw [← Ny212.out] at ho4 | (simp only [Int.reduceToNat] at ho4; rw [← Ny212.out] at ho4)); have n0_ := Aside0.mk (Kd.R_lower ho4 (below_size (by repeat (first | (with_reducible first | exact HB.out | apply below_alloc | apply pw_below_drewN | apply below_drew1) | exact HB.out)))); have n1_ := Aside0.mk (below_step (by repeat (first | (with_reducible first | exact HB.out | apply below_alloc | apply pw_below_drewN | apply below_drew1) | exact HB.out)) hb); clear HB; have HO214 := n0_; have HB := n1_; clear n0_ n1_; clear hb ho4))
    go_loopg [0, 4] k (fun kq v0 v4 w' => ∃ (x0_1 : Int) (x4_1 : List Int), v0 = .int .i64 x0_1 ∧ Aside0 (gatelineref17_Number.l0 kq x0_1 x4_1 = some (r1, r2)) ∧ Aside0 (kq ≤ k) ∧ Aside0 (Kd.R (Kd.int .u8) 5 w' w.heap.size (fun _ => True) v4 x4_1) ∧ Aside0 (Below w.heap.size w w'))
    case atStart => exact ⟨(a0), (y212), (by first | rfl | (simp; done) | (simp [*]; done)), H', ⟨Nat.le_refl _⟩, ⟨by (with_reducible repeat (first | apply Kd.R_alloc | apply Kd.R_drewN | apply Kd.R_drew)); exact HO214.out⟩, ⟨by repeat (first | (with_reducible first | exact HB.out | apply below_alloc | apply pw_below_drewN | apply below_drew1) | exact HB.out)⟩⟩
    case round =>
      clear H'
      try clear c2
      try clear c2b0
      try clear p2
      obtain ⟨x0_1, x4_1, rfl, HA, HK1, HO_4, HB⟩ := hrel
      cases gk with
      | zero => exact absurd HA.out (by simp [gatelineref17_Number.l0])
      | succ k1 =>
        have H := HA.out
        clear HA
        simp only [gatelineref17_Number.l0] at H
        by_cases c5 : x0_1 > 0
        · rw [if_pos c5] at H
          have c5b0 : decide (0 < x0_1) = true := decide_eq_true c5
          clear c5
          obtain ⟨y215, hy215⟩ : ∃ y_ : List Int, y_ = (([(Int.tmod x0_1 256) % 256] : List Int)) := ⟨_, rfl⟩
          replace H : (if y215.length + x4_1.length < 140737488355328 then (gatelineref17_Number.l0 k1 (wrap64 (Int.tdiv x0_1 256)) (y215 ++ x4_1)) else (none)) = some (r1, r2) := by first | (rw [hy215]; with_reducible exact H) | (have H2_ := (Option.bind_some _ _).symm.trans H; rw [hy215]; with_reducible exact H2_) | (have H2_ := (Option.bind_some _ _).symm.trans H; with_reducible exact H2_) | with_reducible exact H | (rw [hy215]; exact H) | exact H
          have Ny215 := Aside0.mk hy215
          clear hy215
          by_cases c6 : y215.length + x4_1.length < 140737488355328
          · rw [if_pos c6] at H
            have LMc6 := Aside0.mk c6
            clear c6
            obtain ⟨y218, hy218⟩ : ∃ y_ : List Int, y_ = (y215 ++ x4_1) := ⟨_, rfl⟩
            replace H : (gatelineref17_Number.l0 k1 (wrap64 (Int.tdiv x0_1 256)) y218) = some (r1, r2) := by first | (rw [hy218]; with_reducible exact H) | (have H2_ := (Option.bind_some _ _).symm.trans H; rw [hy218]; with_reducible exact H2_) | (have H2_ := (Option.bind_some _ _).symm.trans H; with_reducible exact H2_) | with_reducible exact H | (rw [hy218]; exact H) | exact H
            have Ny218 := Aside0.mk hy218
            clear hy218
            have H' := Aside0.mk H
            clear H
            go_wp2_with (first | ((with_reducible refine gate_dst (N := 14) rfl ?_); refine Kd.R_lit (Kd.int .u8) _ 5 ?hg (N := 14) ?hd (xs := ([(Int.tmod x0_1 256) % 256] : List Int)) (inner := [.int .u8 ((Int.tmod x0_1 256) % 256)]) (ok := fun _ => True) (okp := fun _ => True) ?hr ?hp (fun _ hk => hk) trivial (Below.refl _ _) (Nat.le_refl _) (by simp) ?_; (case hd => rfl); (case hg => rfl); (case hr => first | (go_simp; done) | (go_simp; rfl) | (go_simp; simp [gm_u8, gm_u32, gm_tmod]; done)); (case hp => exact (Reps.one (show Kd.M (Kd.int .u8) _ _ _ ((Int.tmod x0_1 256) % 256) [.int .u8 ((Int.tmod x0_1 256) % 256)] from rfl) (Reps.none _ _))); intro v216 w7 ho8 hb hg_ hnew_; clear hg_ hnew_; (first | rw [← Ny215.out] at ho8 | (simp only [Int.reduceToNat] at ho8; rw [← Ny215.out] at ho8)); have n0_ := Aside0.mk (Kd.R_elder' (by (with_reducible repeat (first | apply Kd.R_alloc | apply Kd.R_drewN | apply Kd.R_drew)); exact HO_4.out) (Kd.R_base ho8) hb); have n1_ := Aside0.mk (Kd.R_lower (Kd.R_new' ho8 (Kd.R_lt (by (with_reducible repeat (first | apply Kd.R_alloc | apply Kd.R_drewN | apply Kd.R_drew)); exact HO_4.out))) (below_size (by repeat (first | (with_reducible first | exact HB.out | apply below_alloc | apply pw_below_drewN | apply below_drew1) | exact HB.out)))); have n2_ := Aside0.mk (below_step (by repeat (first | (with_reducible first | exact HB.out | apply below_alloc | apply pw_below_drewN | apply below_drew1) | exact HB.out)) hb); clear HO_4; clear HB; have HO_4 := n0_; have HO217 := n1_; have HB := n2_; clear n0_ n1_ n2_; clear hb ho8; obtain ⟨Ao10, co10, eo10⟩ := Kd.R_slice HO_4.out; subst eo10) | ((with_reducible refine gate_builtin (b := .append) (xs := #[.tmp 15, .tmp 16]) rfl ?_); at_builtin; refine Kd.R_append_rows (Kd.int .u8) (w0 := w) w.heap.size rfl (.tmp 15) (.tmp 16) 24 5 (.int .u8 0) 1 rfl Try.underlying24 info5 rfl (by decide) (by omega) v216 y215 x4_1 _ _ _ (fun k_ => some k_ ≠ (.slice Ao10 x4_1.length co10 : Value).ownBlock) (fun _ => False) rfl rfl ?aO ?aR (fun _ _ h => h) (fun _ h => h.elim) ?aF ?aB ?aS ?aL ?_; (case aR => repeat (first | exact (Kd.R_reads' HO_4.out).2.2 | (with_reducible refine Kd.C_alloc ?_ _) | (with_reducible refine Kd.C_drewN ?_ _) | (with_reducible refine Kd.C_drew ?_))); (case aB => exact (by repeat (first | (with_reducible first | exact HB.out | apply below_alloc | apply pw_below_drewN | apply below_drew1) | exact HB.out))); (case aF => exact (fun k_ hk => Kd.fresh' (Kd.R_lt (by (with_reducible repeat (first | apply Kd.R_alloc | apply Kd.R_drewN | apply Kd.R_drew)); exact HO_4.out)) k_ hk)); (case aO => exact (by (with_reducible repeat (first | apply Kd.R_alloc | apply Kd.R_drewN | apply Kd.R_drew)); exact Kd.R_mono HO217.out (fun _ hk => hk.2))); (case aS => exact (below_size (by repeat (first | (with_reducible first | exact HB.out | apply below_alloc | apply pw_below_drewN | apply below_drew1) | exact HB.out)))); (case aL => have := LMc6.out; omega); intro v219 w9 ho hb hg hat; rw [← Ny218.out] at ho; have n0_ := Aside0.mk (Kd.R_after (ok := (fun _ => True)) (by (with_reducible repeat (first | apply Kd.R_alloc | apply Kd.R_drewN | apply Kd.R_drew)); exact HO_4.out) hg hat); have n1_ := Aside0.mk (hb); have n2_ := Aside0.mk (ho); clear HO_4; clear HB; clear HO217; have HO_4 := n0_; have HB := n1_; have HO220 := n2_; clear n0_ n1_ n2_; clear ho hb hg hat))
            go_roundg k1
            case measure => have := HK1.out; omega
            case rel => exact ⟨(wrap64 (Int.tdiv x0_1 256)), (y218), (by first | rfl | (simp; done) | (simp [*]; done)), H', ⟨by have := HK1.out; omega⟩, ⟨by (with_reducible repeat (first | apply Kd.R_alloc | apply Kd.R_drewN | apply Kd.R_drew)); exact Kd.R_mono HO220.out (fun _ hk => trivial)⟩, ⟨by repeat (first | (with_reducible first | exact HB.out | apply below_alloc | apply pw_below_drewN | apply below_drew1) | exact HB.out)⟩⟩
          · rw [if_neg c6] at H
            exact absurd H (by simp)
        · rw [if_neg c5] at H
          have c5b0 : decide (0 < x0_1) = false := decide_eq_false c5
          clear c5
          simp only [Option.some.injEq, Prod.mk.injEq] at H
          obtain ⟨rfl, rfl⟩ := H
          go_wp2
          go_ret2
          exact ⟨_, by first | rfl | (simp [errW_none, errW_some] <;> rfl) | (simp [*, errW_none, errW_some] <;> rfl), by (with_reducible repeat (first | apply Kd.R_alloc | apply Kd.R_drewN | apply Kd.R_drew)); exact HO_4.out, by repeat (first | (with_reducible first | exact HB.out | apply below_alloc | apply pw_below_drewN | apply below_drew1) | exact HB.out)⟩

/-! ### gatelineref01_Get: function 39 -/
mutual
def gatelineref01_Get.j0 : Nat → List Int → Bool → Option (Int × Int)
  | 0, _, _ => none
  | k + 1, x0, x17 => if x17 = true then (some (0, 23)) else (gatelineref01_Get.l0 k x0 0 0)
def gatelineref01_Get.l0 : Nat → List Int → Int → Int → Option (Int × Int)
  | 0, _, _, _ => none
  | k + 1, x0, x4, x5 => if x5 < (x0.length : Int) then (if 0 ≤ x5 then (gatelineref01_Get.l0 k x0 (wrap64 ((wrap64 (256 * x4)) + (wrap64 (rd x0 x5)))) (wrap64 (x5 + 1))) else (none)) else (some (x4, 0))
end
def gatelineref01_Get.f (k : Nat) (l0 : List Int) : Option (Int × Int) := if (l0.length : Int) > 8 then (some (0, 1)) else (if (l0.length : Int) = 8 then (if 0 < (l0.length : Int) then (gatelineref01_Get.j0 k l0 (decide ((rd l0 0) ≥ 128))) else (none)) else (gatelineref01_Get.j0 k l0 false))
theorem gatelineref01_Get.mono_l : ∀ k, (∀ y0 y1, LeO (gatelineref01_Get.j0 k y0 y1) (gatelineref01_Get.j0 (k + 1) y0 y1)) ∧ (∀ y0 y1 y2, LeO (gatelineref01_Get.l0 k y0 y1 y2) (gatelineref01_Get.l0 (k + 1) y0 y1 y2))
  | 0 => ⟨fun _ _ r h => by simp [gatelineref01_Get.j0] at h, fun _ _ _ r h => by simp [gatelineref01_Get.l0] at h⟩
  | k + 1 => by
    obtain ⟨ih0, ih1⟩ := gatelineref01_Get.mono_l k
    refine ⟨?_, ?_⟩
    · intro y0 y1
      unfold gatelineref01_Get.j0
      repeat' first
      | (with_reducible exact ih0 _ _)
      | (with_reducible exact ih1 _ _ _)
      | (with_reducible exact LeO.refl _)
      | (with_reducible exact LeO.none _)
      | (with_reducible refine LeO.ite ?_ ?_)
      | (with_reducible refine LeO.bind ?_ (fun _ => ?_))
      | exact ih0 _ _
      | exact ih1 _ _ _
      | exact LeO.none _
      | refine LeO.ite ?_ ?_
      | refine LeO.bind ?_ (fun _ => ?_)
    · intro y0 y1 y2
      unfold gatelineref01_Get.l0
      repeat' first
      | (with_reducible exact ih0 _ _)
      | (with_reducible exact ih1 _ _ _)
      | (with_reducible exact LeO.refl _)
      | (with_reducible exact LeO.none _)
      | (with_reducible refine LeO.ite ?_ ?_)
      | (with_reducible refine LeO.bind ?_ (fun _ => ?_))
      | exact ih0 _ _
      | exact ih1 _ _ _
      | exact LeO.none _
      | refine LeO.ite ?_ ?_
      | refine LeO.bind ?_ (fun _ => ?_)
theorem gatelineref01_Get.mono : ∀ a0 k, LeO (gatelineref01_Get.f k a0) (gatelineref01_Get.f (k + 1) a0) := by
  intro a0 k
  obtain ⟨ih0, ih1⟩ := gatelineref01_Get.mono_l k
  unfold gatelineref01_Get.f
  repeat' first
      | (with_reducible exact ih0 _ _)
      | (with_reducible exact ih1 _ _ _)
      | (with_reducible exact LeO.refl _)
      | (with_reducible exact LeO.none _)
      | (with_reducible refine LeO.ite ?_ ?_)
      | (with_reducible refine LeO.bind ?_ (fun _ => ?_))
      | exact ih0 _ _
      | exact ih1 _ _ _
      | exact LeO.none _
      | refine LeO.ite ?_ ?_
      | refine LeO.bind ?_ (fun _ => ?_)
set_option maxHeartbeats 8000000 in
set_option maxRecDepth 100000 in
theorem gatelineref01_Get.calls (k : Nat) (A0 : Option Addr) (c0 : Nat) (l0 : List Int) (r1 : Int) (r2 : Int) (w : World) (hr0 : Kd.C (Kd.int .u8) w A0 l0.length l0) (hc0 : l0.length ≤ c0) (h : gatelineref01_Get.f k l0 = some (r1, r2)) :
    Calls Try.prog 39 #[.slice A0 l0.length c0] w fun e w' => e = .returned (.tuple #[.int .i64 r1, .int .i64 r2]) ∧ Drawn0 w w' := by
  have HR0 := Aside0.mk hr0
  have HC0 := Aside0.mk hc0
  clear hr0 hc0
  have H : (if (l0.length : Int) > 8 then (some (0, 1)) else (if (l0.length : Int) = 8 then (if 0 < (l0.length : Int) then (gatelineref01_Get.j0 k l0 (decide ((rd l0 0) ≥ 128))) else (none)) else (gatelineref01_Get.j0 k l0 false))) = some (r1, r2) := h
  clear h
  by_cases c2 : (l0.length : Int) > 8
  · rw [if_pos c2] at H
    have c2b0 : decide (8 < (l0.length : Int)) = true := decide_eq_true c2
    have c2b1 : decide (8 < l0.length) = true := decide_eq_true (by omega)
    clear c2
    simp only [Option.some.injEq, Prod.mk.injEq] at H
    obtain ⟨rfl, rfl⟩ := H
    go_enter Try.func39, Try.ntmps39
    go_wp2
    go_ret2
    exact ⟨by first | rfl | (simp; done) | (simp [*]; done), by repeat (first | exact Drawn0.refl _ | apply Drawn0.step)⟩
  · rw [if_neg c2] at H
    have c2b0 : decide (8 < (l0.length : Int)) = false := decide_eq_false c2
    have c2b1 : decide (8 < l0.length) = false := decide_eq_false (by omega)
    clear c2
    have HC3 := Aside0.mk H
    clear H
    go_enter Try.func39, Try.ntmps39
    go_upto_region 3 with (fail)
    go_cut [17] (fun v17 wc => ∃ (kq : Nat) (x17_2 : Bool), v17 = .bool x17_2 ∧ Aside0 (gatelineref01_Get.j0 kq l0 x17_2 = some (r1, r2)) ∧ Aside0 (kq ≤ k) ∧ Drawn0 w wc)
    case first =>
      have H := HC3.out
      clear HC3
      by_cases c4 : (l0.length : Int) = 8
      · rw [if_pos c4] at H
        have c4b0 : ((l0.length : Int) == 8) = true := beq_iff_eq.mpr c4
        have c4b1 : ((l0.length : Int) != 8) = false := bne_eq_false_iff_eq.mpr c4
        clear c4
        (first | rw [c4b0] | (simp only [i64_w, i32_w]; rw [c4b0]) | skip)
        by_cases c5 : 0 < (l0.length : Int)
        · rw [if_pos c5] at H
          have c5b0 : decide (0 < (l0.length : Int)) = true := decide_eq_true c5
          have c5b1 : decide (0 < l0.length) = true := decide_eq_true (by omega)
          clear c5
          have H' := Aside0.mk H
          clear H
          have p221 : 0 ≤ (0 : Int) := (by omega)
          have q221 : 0 < (l0.length : Int) := of_decide_eq_true (by first | (with_reducible assumption) | assumption)
          obtain ⟨ad221, e221, hx221_0⟩ := Kd.at_int HR0.out 0 p221 q221
          cases e221
          have qi221 : (0 < l0.length) = True := eq_true (by omega)
          (try rw [show ((0 : Int)).toNat = 0 from rfl] at hx221_0)
          (try rw [Addr.add_zero'] at hx221_0)
          replace p221 := eq_true p221
          replace q221 := eq_true q221
          go_wp2
          go_meet
          case rel => exact ⟨_, (decide ((rd l0 0) ≥ 128)), (by first | rfl | (simp; done) | (simp [*]; done)), H', ⟨by first | omega | exact Nat.le_refl _⟩, by repeat (first | exact Drawn0.refl _ | apply Drawn0.step)⟩
        · rw [if_neg c5] at H
          exact absurd H (by simp)
      · rw [if_neg c4] at H
        have c4b0 : ((l0.length : Int) == 8) = false := beq_eq_false_iff_ne.mpr c4
        have c4b1 : ((l0.length : Int) != 8) = true := bne_iff_ne.mpr c4
        (first | rw [c4b0] | (simp only [i64_w, i32_w]; rw [c4b0]) | skip)
        have H' := Aside0.mk H
        clear H
        go_wp2
        go_meet
        case rel => exact ⟨_, (false), (by first | rfl | (simp; done) | (simp [*]; done)), H', ⟨by first | omega | exact Nat.le_refl _⟩, by repeat (first | exact Drawn0.refl _ | apply Drawn0.step)⟩
    case rest =>
      clear HC3
      try clear c2
      try clear c2b0
      try clear c2b1
      try clear p2
      try clear q2
      try clear hx2
      try clear qi2
      try clear c3
      try clear c4
      try clear c4b0
      try clear c4b1
      try clear c5
      try clear c5b0
      try clear c5b1
      try clear hx221_0
      try clear p221
      try clear q221
      obtain ⟨kq, x17_2, rfl, HA, HJ2, ⟨mc2, rfl⟩⟩ := hcut
      cases kq with
      | zero => exact absurd HA.out (by simp [gatelineref01_Get.j0])
      | succ kj2 =>
        have H := HA.out
        clear HA
        simp only [gatelineref01_Get.j0] at H
        by_cases c6 : x17_2 = true
        · subst c6
          have H1 : (some (0, 23)) = some (r1, r2) := by rw [if_pos rfl] at H; exact H
          clear H
          have H := H1
          clear H1
          simp only [Option.some.injEq, Prod.mk.injEq] at H
          obtain ⟨rfl, rfl⟩ := H
          go_wp2
          go_ret2
          exact ⟨by first | rfl | (simp; done) | (simp [*]; done), by repeat (first | exact Drawn0.refl _ | apply Drawn0.step)⟩
        · replace c6 := Bool.eq_false_iff.mpr c6
          subst c6
          have H1 : (gatelineref01_Get.l0 kj2 l0 0 0) = some (r1, r2) := by rw [if_neg (show ¬ (false = true) by decide)] at H; exact H
          clear H
          have H := H1
          clear H1
          have H' := Aside0.mk H
          clear H
          go_wp2
          go_loopg [4, 5] kj2 (fun kq v4 v5 w' => ∃ (x4_2 : Int) (x5_2 : Int), v4 = .int .i64 x4_2 ∧ v5 = .int .i64 x5_2 ∧ Aside0 (gatelineref01_Get.l0 kq l0 x4_2 x5_2 = some (r1, r2)) ∧ Aside0 (kq ≤ kj2) ∧ Drawn0 w w')
          case atStart => exact ⟨(0), (0), (by first | rfl | (simp; done) | (simp [*]; done)), (by first | rfl | (simp; done) | (simp [*]; done)), H', ⟨Nat.le_refl _⟩, by repeat (first | exact Drawn0.refl _ | apply Drawn0.step)⟩
          case round =>
            clear H'
            try clear c2
            try clear c2b0
            try clear c2b1
            try clear p2
            try clear q2
            try clear hx2
            try clear qi2
            try clear c3
            try clear c4
            try clear c4b0
            try clear c4b1
            try clear c5
            try clear c5b0
            try clear c5b1
            try clear c6
            try clear hx221_0
            try clear p2
            try clear p221
            try clear q2
            try clear q221
            obtain ⟨x4_2, x5_2, rfl, rfl, HA, HK2, ⟨m2, rfl⟩⟩ := hrel
            cases gk with
            | zero => exact absurd HA.out (by simp [gatelineref01_Get.l0])
            | succ k2 =>
              have H := HA.out
              clear HA
              simp only [gatelineref01_Get.l0] at H
              by_cases c7 : x5_2 < (l0.length : Int)
              · rw [if_pos c7] at H
                have c7b0 : decide (x5_2 < (l0.length : Int)) = true := decide_eq_true c7
                clear c7
                by_cases c8 : 0 ≤ x5_2
                · rw [if_pos c8] at H
                  have c8b0 : decide (0 ≤ x5_2) = true := decide_eq_true c8
                  clear c8
                  have H' := Aside0.mk H
                  clear H
                  have p222 : 0 ≤ (x5_2 : Int) := of_decide_eq_true (by first | (with_reducible assumption) | assumption)
                  have q222 : x5_2 < (l0.length : Int) := of_decide_eq_true (by first | (with_reducible assumption) | assumption)
                  obtain ⟨ad222, e222, hx222_0⟩ := Kd.at_int HR0.out x5_2 p222 q222
                  cases e222
                  replace p222 := eq_true p222
                  replace q222 := eq_true q222
                  go_wp2
                  go_roundg k2
                  case measure => have := HJ2.out; have := HK2.out; omega
                  case rel => exact ⟨(wrap64 ((wrap64 (256 * x4_2)) + (wrap64 (rd l0 x5_2)))), (wrap64 (x5_2 + 1)), (by first | rfl | (simp; done) | (simp [*]; done)), (by first | rfl | (simp; done) | (simp [*]; done)), H', ⟨by have := HJ2.out; have := HK2.out; omega⟩, by repeat (first | exact Drawn0.refl _ | apply Drawn0.step)⟩
                · rw [if_neg c8] at H
                  exact absurd H (by simp)
              · rw [if_neg c7] at H
                have c7b0 : decide (x5_2 < (l0.length : Int)) = false := decide_eq_false c7
                clear c7
                simp only [Option.some.injEq, Prod.mk.injEq] at H
                obtain ⟨rfl, rfl⟩ := H
                go_wp2
                go_ret2
                exact ⟨by first | rfl | (simp; done) | (simp [*]; done), by repeat (first | exact Drawn0.refl _ | apply Drawn0.step)⟩

/-! ### gatelineref17_Value: function 27 -/
def gatelineref17_Value.f (k : Nat) (l0 : List Int) : Option (Int × Int) := if (l0.length : Int) < 1 then (some (0, 14)) else (if (l0.length : Int) > 7 then (some (0, 14)) else (if 0 < (l0.length : Int) then (if (rd l0 0) = 0 then (some (0, 14)) else ((gatelineref01_Get.f k l0).bind fun bt224 => (some (bt224.1, bt224.2)))) else (none)))
theorem gatelineref17_Value.mono : ∀ a0 k, LeO (gatelineref17_Value.f k a0) (gatelineref17_Value.f (k + 1) a0) := by
  intro a0 k
  unfold gatelineref17_Value.f
  repeat' first
      | (with_reducible exact gatelineref01_Get.mono _ _)
      | (with_reducible exact LeO.refl _)
      | (with_reducible exact LeO.none _)
      | (with_reducible refine LeO.ite ?_ ?_)
      | (with_reducible refine LeO.bind ?_ (fun _ => ?_))
      | exact gatelineref01_Get.mono _ _
      | exact LeO.none _
      | refine LeO.ite ?_ ?_
      | refine LeO.bind ?_ (fun _ => ?_)
set_option maxHeartbeats 8000000 in
set_option maxRecDepth 100000 in
theorem gatelineref17_Value.calls (k : Nat) (A0 : Option Addr) (c0 : Nat) (l0 : List Int) (r1 : Int) (r2 : Int) (w : World) (hr0 : Kd.C (Kd.int .u8) w A0 l0.length l0) (hc0 : l0.length ≤ c0) (h : gatelineref17_Value.f k l0 = some (r1, r2)) :
    Calls Try.prog 27 #[.slice A0 l0.length c0] w fun e w' => e = .returned (.tuple #[.int .i64 r1, .int .i64 r2]) ∧ Drawn0 w w' := by
  have HR0 := Aside0.mk hr0
  have HC0 := Aside0.mk hc0
  clear hr0 hc0
  have H : (if (l0.length : Int) < 1 then (some (0, 14)) else (if (l0.length : Int) > 7 then (some (0, 14)) else (if 0 < (l0.length : Int) then (if (rd l0 0) = 0 then (some (0, 14)) else ((gatelineref01_Get.f k l0).bind fun bt224 => (some (bt224.1, bt224.2)))) else (none)))) = some (r1, r2) := h
  clear h
  by_cases c2 : (l0.length : Int) < 1
  · rw [if_pos c2] at H
    have c2b0 : decide ((l0.length : Int) < 1) = true := decide_eq_true c2
    have c2b1 : decide (l0.length < 1) = true := decide_eq_true (by omega)
    clear c2
    simp only [Option.some.injEq, Prod.mk.injEq] at H
    obtain ⟨rfl, rfl⟩ := H
    go_enter Try.func27, Try.ntmps27
    go_wp2
    go_ret2
    exact ⟨by first | rfl | (simp; done) | (simp [*]; done), by repeat (first | exact Drawn0.refl _ | apply Drawn0.step)⟩
  · rw [if_neg c2] at H
    have c2b0 : decide ((l0.length : Int) < 1) = false := decide_eq_false c2
    have c2b1 : decide (l0.length < 1) = false := decide_eq_false (by omega)
    clear c2
    by_cases c3 : (l0.length : Int) > 7
    · rw [if_pos c3] at H
      have c3b0 : decide (7 < (l0.length : Int)) = true := decide_eq_true c3
      have c3b1 : decide (7 < l0.length) = true := decide_eq_true (by omega)
      clear c3
      simp only [Option.some.injEq, Prod.mk.injEq] at H
      obtain ⟨rfl, rfl⟩ := H
      go_enter Try.func27, Try.ntmps27
      go_wp2
      go_ret2
      exact ⟨by first | rfl | (simp; done) | (simp [*]; done), by repeat (first | exact Drawn0.refl _ | apply Drawn0.step)⟩
    · rw [if_neg c3] at H
      have c3b0 : decide (7 < (l0.length : Int)) = false := decide_eq_false c3
      have c3b1 : decide (7 < l0.length) = false := decide_eq_false (by omega)
      clear c3
      by_cases c4 : 0 < (l0.length : Int)
      · rw [if_pos c4] at H
        have c4b0 : decide (0 < (l0.length : Int)) = true := decide_eq_true c4
        have c4b1 : decide (0 < l0.length) = true := decide_eq_true (by omega)
        clear c4
        by_cases c5 : (rd l0 0) = 0
        · rw [if_pos c5] at H
          have c5b0 : ((rd l0 0) == 0) = true := beq_iff_eq.mpr c5
          have c5b1 : ((rd l0 0) != 0) = false := bne_eq_false_iff_eq.mpr c5
          clear c5
          simp only [Option.some.injEq, Prod.mk.injEq] at H
          obtain ⟨rfl, rfl⟩ := H
          have p223 : 0 ≤ (0 : Int) := (by omega)
          have q223 : 0 < (l0.length : Int) := of_decide_eq_true (by first | (with_reducible assumption) | assumption)
          obtain ⟨ad223, e223, hx223_0⟩ := Kd.at_int HR0.out 0 p223 q223
          cases e223
          have qi223 : (0 < l0.length) = True := eq_true (by omega)
          (try rw [show ((0 : Int)).toNat = 0 from rfl] at hx223_0)
          (try rw [Addr.add_zero'] at hx223_0)
          replace p223 := eq_true p223
          replace q223 := eq_true q223
          go_enter Try.func27, Try.ntmps27
          go_wp2
          go_ret2
          exact ⟨by first | rfl | (simp; done) | (simp [*]; done), by repeat (first | exact Drawn0.refl _ | apply Drawn0.step)⟩
        · rw [if_neg c5] at H
          have c5b0 : ((rd l0 0) == 0) = false := beq_eq_false_iff_ne.mpr c5
          have c5b1 : ((rd l0 0) != 0) = true := bne_iff_ne.mpr c5
          replace H := Option.bind_eq_some_iff.mp H
          obtain ⟨⟨t224, t225⟩, A60, H⟩ := H
          replace H : (some (t224, t225)) = some (r1, r2) := H
          have A6 := Aside0.mk A60
          clear A60
          simp only [Option.some.injEq, Prod.mk.injEq] at H
          obtain ⟨rfl, rfl⟩ := H
          have p223 : 0 ≤ (0 : Int) := (by omega)
          have q223 : 0 < (l0.length : Int) := of_decide_eq_true (by first | (with_reducible assumption) | assumption)
          obtain ⟨ad223, e223, hx223_0⟩ := Kd.at_int HR0.out 0 p223 q223
          cases e223
          have qi223 : (0 < l0.length) = True := eq_true (by omega)
          (try rw [show ((0 : Int)).toNat = 0 from rfl] at hx223_0)
          (try rw [Addr.add_zero'] at hx223_0)
          replace p223 := eq_true p223
          replace q223 := eq_true q223
          go_enter Try.func27, Try.ntmps27
          go_wp2_with (first | ((with_reducible refine gate_callee (f := 39) rfl ?_); refine goesL_ (some 22) rfl rfl Try.func39 (by kernel_rfl) rfl #[.slice (some ad223) l0.length c0] rfl (by (try simp only [List.map_toArray, List.map_cons, List.map_nil]); first | done | rfl | (simp only [List.length_drop, List.length_take]; rfl)) ?_; (with_reducible refine (gatelineref01_Get.calls k _ _ l0 t224 t225 _ ?side1 ?side2 A6.out).mono ?_); (case side1 => repeat (first | exact HR0.out | (with_reducible refine Kd.C_alloc ?_ _) | (with_reducible refine Kd.C_drewN ?_ _) | (with_reducible refine Kd.C_drew ?_))); (case side2 => exact HC0.out); rintro e w' ⟨rfl, ⟨nd, rfl⟩⟩; refine ⟨_, rfl, ?_⟩; (try clear A6)))
          go_ret2
          exact ⟨by first | rfl | (simp; done) | (simp [*]; done), by repeat (first | exact Drawn0.refl _ | apply Drawn0.step)⟩
      · rw [if_neg c4] at H
        exact absurd H (by simp)

end Go.Proofs.Ytekgienbhpknlaa.PL
end
section
namespace Go.Proofs.Ytekgienbhpknlaa.Q
open Go Go.RowKit Go.Proofs.Ytekgienbhpknlaa.PL Go.Proofs.YtekgienbhpknlaaW.PrintWords Go.Proofs.YtekgienbhpknlaaW.PrintLast Go.Proofs.YtekgienbhpknlaaW.PrintMore
theorem wrap_step (a x : Int) (_hx : 0 ≤ x ∧ x ≤ 255) : wrap64 ((wrap64 (256 * wrap64 a)) + wrap64 x) = wrap64 (256 * a + x) := by
  unfold wrap64
  omega
theorem refGet_l0 (l : List Int) (hl : IsBytes l) (h8 : l.length ≤ 8) (d : Nat) : ∀ (k i : Nat), l.length - i = d → i ≤ l.length → d < k →
    gatelineref01_Get.l0 k l (wrap64 (val (l.take i))) (i : Int) = some (wrap64 (val l), 0) := by
  induction d with
  | zero =>
    intro k i hd hi hk
    obtain ⟨k, rfl⟩ : ∃ m, k = m + 1 := ⟨k - 1, by omega⟩
    have c : ¬ (i : Int) < (l.length : Int) := by omega
    rw [gatelineref01_Get.l0, if_neg c, show i = l.length by omega, List.take_length]
  | succ d ih =>
    intro k i hd hi hk
    obtain ⟨k, rfl⟩ : ∃ m, k = m + 1 := ⟨k - 1, by omega⟩
    have c1 : (i : Int) < (l.length : Int) := by omega
    have c2 : (0 : Int) ≤ (i : Int) := by omega
    have hi1 : i ≤ 9223372036854775806 := by omega
    have hr : rd l (i : Int) = l.getD i 0 := by simp [rd]
    have := ih k (i + 1) (by omega) (by omega) (by omega)
    rw [take_snoc l i (by omega), val_snoc] at this
    rw [gatelineref01_Get.l0, if_pos c1, if_pos c2, hr, wrap_step _ _ (hl.getD i), w64_succ i hi1]
    exact this
theorem refGet_ev (l : List Int) (hl : IsBytes l) : Ev (fun k => gatelineref01_Get.f k l) (getR l) := by
  refine ⟨12, fun k hk => ?_⟩
  show gatelineref01_Get.f k l = _
  obtain ⟨k, rfl⟩ : ∃ m, k = m + 1 := ⟨k - 1, by omega⟩
  unfold gatelineref01_Get.f
  by_cases h : l.length > 8
  · rw [if_pos (by omega)]
    unfold getR
    rw [if_pos h]
  · have c0 : ¬ ((l.length : Int) > 8) := by omega
    have hj : gatelineref01_Get.j0 (k + 1) l false = some (wrap64 (val l), 0) := by
      have := refGet_l0 l hl (by omega) l.length k 0 (by omega) (by omega) (by omega)
      rw [gatelineref01_Get.j0, if_neg (by decide)]
      have hz : wrap64 (val (l.take 0)) = 0 := w64 (x := 0) (by omega) (by omega)
      rw [hz] at this
      exact this
    have hj' : gatelineref01_Get.j0 (k + 1) l true = some (0, 23) := by rw [gatelineref01_Get.j0, if_pos rfl]
    rw [if_neg c0]
    have hg : getR l = if val l ≥ 9223372036854775808 then (0, 23) else (val l, 0) := by
      unfold getR
      rw [if_neg h]
    rw [hg]
    have hb := val_bound l hl
    by_cases h8 : l.length = 8
    · have c1 : (l.length : Int) = 8 := by omega
      have c2 : (0 : Int) < (l.length : Int) := by omega
      rw [if_pos c1, if_pos c2]
      match l, h8 with
      | x :: t, h8 =>
        have ht : t.length = 7 := by simpa using h8
        have hx := hl x (by simp)
        have hbt := val_bound t (fun y hy => hl y (by simp [hy]))
        rw [ht, pow256_7] at hbt
        have hv := val_cons x t
        rw [ht, pow256_7] at hv
        have hr : rd (x :: t) 0 = x := rfl
        rw [hr]
        by_cases hx2 : x ≥ 128
        · rw [decide_eq_true hx2, hj', if_pos (by omega)]
        · rw [decide_eq_false hx2, hj, if_neg (by omega), w64 (by omega) (by omega)]
    · have c1 : ¬ (l.length : Int) = 8 := by omega
      have hp : 256 ^ l.length ≤ 256 ^ 7 := Nat.pow_le_pow_right (by decide) (by omega)
      rw [pow256_7] at hp
      rw [if_neg c1, hj, if_neg (by omega), w64 (by omega) (by omega)]
theorem putR_length (n size : Int) : (putR n size).1.length ≤ 8 := by
  unfold putR
  split
  · simp
  · split
    · simp
    · rw [be_length]; omega
end Go.Proofs.Ytekgienbhpknlaa.Q
end
section
namespace Go.Proofs.Ytekgienbhpknlaa.Q
open Go Go.RowKit Go.Proofs.Ytekgienbhpknlaa.PL Go.Proofs.YtekgienbhpknlaaW.PrintWords Go.Proofs.YtekgienbhpknlaaW.PrintLast Go.Proofs.YtekgienbhpknlaaW.PrintMore
theorem rd0 (xs : List Int) (i : Nat) : rd xs (i : Int) = xs.getD i 0 := by simp [rd]
def strip : List Int → List Int
  | [] => []
  | x :: l => if x = 0 then strip l else x :: l
theorem strip_length : ∀ l, (strip l).length ≤ l.length
  | [] => by simp [strip]
  | x :: l => by
    have := strip_length l
    unfold strip
    split
    · rw [List.length_cons]; omega
    · exact Nat.le_refl _
theorem strip_head : ∀ l, strip l = [] ∨ ∃ x t, strip l = x :: t ∧ x ≠ 0
  | [] => .inl rfl
  | x :: l => by
    unfold strip
    split
    · exact strip_head l
    · rename_i h
      exact .inr ⟨x, l, rfl, h⟩
theorem strip_bytes : ∀ l, IsBytes l → IsBytes (strip l)
  | [], h => h
  | x :: l, h => by
    unfold strip
    split
    · exact strip_bytes l (fun y hy => h y (by simp [hy]))
    · exact h
theorem strip_val : ∀ l, val (strip l) = val l
  | [] => rfl
  | x :: l => by
    unfold strip
    split
    · rename_i h
      rw [strip_val l, val_cons, h]
      simp
    · rfl
theorem number_l0 (l : List Int) : ∀ k, l.length < k → tlv_Number.l0 k l = some (strip l, 0) := by
  induction l with
  | nil =>
    intro k hk
    obtain ⟨k, rfl⟩ : ∃ m, k = m + 1 := ⟨k - 1, by omega⟩
    rw [tlv_Number.l0, if_neg (by simp)]
    rfl
  | cons x l ih =>
    intro k hk
    rw [List.length_cons] at hk
    obtain ⟨k, rfl⟩ : ∃ m, k = m + 1 := ⟨k - 1, by omega⟩
    have hr : rd (x :: l) 0 = x := rfl
    have c1 : ((x :: l).length : Int) > 0 := by rw [List.length_cons]; omega
    have c2 : 0 < ((x :: l).length : Int) := c1
    have c3 : 1 ≤ ((x :: l).length : Int) := by rw [List.length_cons]; omega
    rw [tlv_Number.l0, if_pos c1, if_pos c2, hr, strip]
    by_cases h : x = 0
    · rw [if_pos h, if_pos h, if_pos c3]
      exact ih k (by omega)
    · rw [if_neg h, if_neg h]
def numR (n : Int) : List Int × Int := if n < 0 then ([], 1) else (strip (be n 8), 0)
theorem number_ev (n : Int) : Ev (fun k => tlv_Number.f k n) (numR n) := by
  obtain ⟨K, hK⟩ := put_ev n 8
  refine ⟨K + 9, fun k hk => ?_⟩
  have hp : bits_Put.f k n 8 = some (putR n 8) := hK k (by omega)
  show tlv_Number.f k n = _
  unfold tlv_Number.f numR
  rw [hp, Option.bind_some]
  by_cases h : n < 0
  · have e : putR n 8 = ([], 1) := by unfold putR; exact if_pos (.inr (.inr h))
    rw [e, if_pos h]
    exact if_neg (by decide)
  · have e : putR n 8 = (be n 8, 0) := by
      unfold putR
      rw [if_neg (by omega), if_neg (by omega)]
      rfl
    rw [e, if_neg h, if_pos rfl]
    exact number_l0 _ k (by rw [be_length]; omega)
theorem be_snoc (N : Nat) : ∀ s, be (N : Int) (s + 1) = be ((N / 256 : Nat) : Int) s ++ [((N % 256 : Nat) : Int)]
  | 0 => by
    simp only [be, List.nil_append]
    congr 1
    omega
  | s + 1 => by
    rw [be, be_snoc N s, be]
    have e : (N : Int) / ((256 ^ (s + 1) : Nat) : Int) % 256 = ((N / 256 : Nat) : Int) / ((256 ^ s : Nat) : Int) % 256 := by
      rw [Nat.pow_succ, Nat.mul_comm, ← Int.natCast_ediv, ← Int.natCast_ediv, Nat.div_div_eq_div_mul]
    rw [e]
    rfl
def digs : Nat → Nat → List Int
  | 0, _ => []
  | s + 1, N => if N = 0 then [] else digs s (N / 256) ++ [((N % 256 : Nat) : Int)]
theorem digs_length : ∀ s N, (digs s N).length ≤ s
  | 0, _ => by simp [digs]
  | s + 1, N => by
    unfold digs
    split
    · simp
    · have := digs_length s (N / 256)
      simp only [List.length_append, List.length_cons, List.length_nil]
      omega
theorem strip_append (a b : List Int) : strip (a ++ b) = if strip a = [] then strip b else strip a ++ b := by
  induction a with
  | nil => simp [strip]
  | cons x a ih =>
    rw [List.cons_append, strip, strip]
    by_cases h : x = 0
    · rw [if_pos h, if_pos h, ih]
    · rw [if_neg h, if_neg h, if_neg (by simp)]
      rfl
theorem strip_be : ∀ (s N : Nat), N < 256 ^ s → strip (be (N : Int) s) = digs s N
  | 0, N, _ => rfl
  | s + 1, N, h => by
    rw [be_snoc, strip_append, strip_be s (N / 256) (by rw [Nat.pow_succ] at h; omega), digs]
    by_cases h0 : N = 0
    · subst h0
      have : digs s 0 = [] := by cases s <;> simp [digs]
      simp [this, strip]
    · rw [if_neg h0]
      by_cases h1 : digs s (N / 256) = []
      · rw [if_pos h1, h1]
        have : N / 256 = 0 := by
          cases s with
          | zero => rw [Nat.pow_succ, Nat.pow_zero] at h; omega
          | succ s =>
            rw [digs] at h1
            by_cases h2 : N / 256 = 0
            · exact h2
            · rw [if_neg h2] at h1
              simp at h1
        rw [strip, if_neg (by omega)]
        rfl
      · rw [if_neg h1]
theorem refNumber_l0 (s : Nat) : ∀ (k N : Nat) (acc : List Int), s ≤ 8 → N < 256 ^ s → N ≤ 9223372036854775807 → s < k → acc.length ≤ 8 - s →
    gatelineref17_Number.l0 k (N : Int) acc = some (digs s N ++ acc, 0) := by
  induction s with
  | zero =>
    intro k N acc _ hN _ hk _
    obtain ⟨k, rfl⟩ : ∃ m, k = m + 1 := ⟨k - 1, by omega⟩
    rw [Nat.pow_zero] at hN
    rw [gatelineref17_Number.l0, if_neg (by omega)]
    rfl
  | succ s ih =>
    intro k N acc hs hN hM hk ha
    obtain ⟨k, rfl⟩ : ∃ m, k = m + 1 := ⟨k - 1, by omega⟩
    rw [gatelineref17_Number.l0, digs]
    by_cases h : N = 0
    · subst h
      rw [if_neg (by omega), if_pos rfl]
      rfl
    · have e := ih k (N / 256) ([((N % 256 : Nat) : Int)] ++ acc) (by omega) (by rw [Nat.pow_succ] at hN; omega) (by omega) (by omega) (by simp only [List.length_append, List.length_cons, List.length_nil]; omega)
      have c : 1 + acc.length < 140737488355328 := by omega
      have hN0 : (N : Int) > 0 := by omega
      have e1 : Int.tmod (N : Int) 256 % 256 = ((N % 256 : Nat) : Int) := by rw [Int.tmod_eq_emod_of_nonneg (by omega)]; omega
      have e2 : wrap64 (Int.tdiv (N : Int) 256) = ((N / 256 : Nat) : Int) := by rw [Int.tdiv_eq_ediv_of_nonneg (by omega), w64 (by omega) (by omega)]; omega
      rw [if_pos hN0, if_neg h, Option.bind_some, List.length_cons, List.length_nil, Nat.zero_add, if_pos c, e1, e2, e, List.append_assoc]
theorem lt_pow8 (N : Nat) (h : N ≤ 9223372036854775807) : N < 256 ^ 8 := by rw [pow256_8]; omega
theorem refNumber_ev (n : Int) (hn : n ≤ 9223372036854775807) : Ev (fun k => gatelineref17_Number.f k n) (numR n) := by
  refine ⟨9, fun k hk => ?_⟩
  show gatelineref17_Number.f k n = _
  unfold gatelineref17_Number.f numR
  by_cases h : n < 0
  · rw [if_pos h, if_pos h]
  · rw [if_neg h, if_neg h]
    obtain ⟨N, rfl⟩ : ∃ N : Nat, n = (N : Int) := ⟨n.toNat, by omega⟩
    rw [refNumber_l0 8 k N [] (by omega) (lt_pow8 N (by omega)) (by omega) (by omega) (by simp), List.append_nil, strip_be 8 N (lt_pow8 N (by omega))]
theorem numR_length (n : Int) : (numR n).1.length ≤ 8 := by
  unfold numR
  split
  · simp
  · have := strip_length (be n 8)
    rw [be_length] at this
    exact this
theorem numR_bytes (n : Int) : IsBytes (numR n).1 := by
  unfold numR
  split
  · exact fun x hx => by cases hx
  · exact strip_bytes _ (be_isBytes n 8)
def valR (l : List Int) : Int × Int := if l.length < 1 ∨ l.length > 7 ∨ l.getD 0 0 = 0 then (0, 14) else (val l, 0)
theorem getR_small (l : List Int) (hl : IsBytes l) (h : l.length ≤ 7) : getR l = (val l, 0) := by
  have hb := val_bound l hl
  have hp : 256 ^ l.length ≤ 256 ^ 7 := Nat.pow_le_pow_right (by decide) h
  rw [pow256_7] at hp
  unfold getR
  rw [if_neg (by omega), if_neg (by omega)]
theorem value_gen {g : Nat → Option (Int × Int)} (l : List Int) (hl : IsBytes l) (hg : Ev g (getR l)) : Ev (fun k => if (l.length : Int) < 1 then (some ((0 : Int), (14 : Int))) else (if (l.length : Int) > 7 then (some (0, 14)) else (if 0 < (l.length : Int) then (if (rd l 0) = 0 then (some (0, 14)) else ((g k).bind fun bt => (some (bt.1, bt.2)))) else (none)))) (valR l) := by
  obtain ⟨K, hK⟩ := hg
  refine ⟨K, fun k hk => ?_⟩
  have e0 : rd l 0 = l.getD 0 0 := rd0 l 0
  unfold valR
  simp only [hK k hk, e0, Option.bind_some]
  by_cases h1 : l.length < 1
  · rw [if_pos (by omega), if_pos (.inl h1)]
  · rw [if_neg (by omega)]
    by_cases h2 : l.length > 7
    · rw [if_pos (by omega), if_pos (.inr (.inl h2))]
    · rw [if_neg (by omega), if_pos (by omega)]
      by_cases h3 : l.getD 0 0 = 0
      · rw [if_pos h3, if_pos (.inr (.inr h3))]
      · rw [if_neg h3, if_neg (by omega), getR_small l hl (by omega)]
theorem value_ev (l : List Int) (hl : IsBytes l) : Ev (fun k => tlv_Value.f k l) (valR l) := value_gen l hl (get_ev l hl)
theorem refValue_ev (l : List Int) (hl : IsBytes l) : Ev (fun k => gatelineref17_Value.f k l) (valR l) := value_gen l hl (refGet_ev l hl)
/-- A number but 0 that has at most seven bytes is told again. -/
theorem val_num (n : Int) (h0 : 0 < n) (hn : n ≤ 9223372036854775807) (hl : (numR n).1.length ≤ 7) : valR (numR n).1 = (n, 0) := by
  obtain ⟨N, rfl⟩ : ∃ N : Nat, n = (N : Int) := ⟨n.toNat, by omega⟩
  have hv : val (numR (N : Int)).1 = (N : Int) := by
    unfold numR
    rw [if_neg (by omega)]
    show val (strip _) = _
    rw [strip_val, val_be, Nat.mod_eq_of_lt (lt_pow8 N (by omega))]
  have hh : (numR (N : Int)).1 = [] ∨ ∃ x t, (numR (N : Int)).1 = x :: t ∧ x ≠ 0 := by
    unfold numR
    rw [if_neg (by omega)]
    exact strip_head _
  rcases hh with h | ⟨x, t, h, hx⟩
  · rw [h] at hv
    simp [val] at hv
    omega
  · unfold valR
    rw [if_neg, hv]
    rintro (h1 | h1 | h1)
    · rw [h] at h1; simp at h1
    · omega
    · rw [h] at h1; exact hx h1
theorem be_val : ∀ (s : Nat) (l : List Int), l.length = s → IsBytes l → be (val l) s = l
  | 0, l, hl, _ => by rw [List.eq_nil_of_length_eq_zero hl]; rfl
  | s + 1, l, hl, hB => by
    obtain ⟨a, x, rfl⟩ : ∃ a x, l = a ++ [x] := ⟨l.dropLast, l.getLast (by intro h; subst h; simp at hl), (List.dropLast_concat_getLast _).symm⟩
    have ha : IsBytes a := fun y hy => hB y (by simp [hy])
    have hx := hB x (by simp)
    have hb := val_bound a ha
    have e := be_val s a (by simpa using hl) ha
    rw [val_snoc]
    obtain ⟨V, hV⟩ : ∃ V : Nat, val a = (V : Int) := ⟨(val a).toNat, by omega⟩
    obtain ⟨X, rfl⟩ : ∃ X : Nat, x = (X : Int) := ⟨x.toNat, by omega⟩
    rw [hV] at e ⊢
    have := be_snoc (256 * V + X) s
    rw [show ((256 * V + X : Nat) : Int) = 256 * (V : Int) + (X : Int) by omega] at this
    rw [this, show (256 * V + X) / 256 = V by omega, show (256 * V + X) % 256 = X by omega, e]
theorem strip_be_more (V : Nat) (s : Nat) (hV : V < 256 ^ s) : ∀ d, strip (be (V : Int) (s + d)) = strip (be (V : Int) s)
  | 0 => rfl
  | d + 1 => by
    have hp : 256 ^ s ≤ 256 ^ (s + d) := Nat.pow_le_pow_right (by decide) (by omega)
    rw [show s + (d + 1) = (s + d) + 1 by omega, be, show (V : Int) / ((256 ^ (s + d) : Nat) : Int) % 256 = 0 by rw [← Int.natCast_ediv, Nat.div_eq_of_lt (by omega)]; rfl, strip, if_pos rfl]
    exact strip_be_more V s hV d
/-- Bytes that are a number are its bytes. -/
theorem num_val (l : List Int) (hl : IsBytes l) (h : (valR l).2 = 0) : 0 < (valR l).1 ∧ (valR l).1 ≤ 9223372036854775807 ∧ numR (valR l).1 = (l, 0) := by
  unfold valR at h ⊢
  split at h
  · exact absurd h (by decide)
  · rename_i hc
    rw [if_neg hc]
    show 0 < val l ∧ val l ≤ _ ∧ numR (val l) = (l, 0)
    have hb := val_bound l hl
    have hp : 256 ^ l.length ≤ 256 ^ 7 := Nat.pow_le_pow_right (by decide) (by omega)
    rw [pow256_7] at hp
    obtain ⟨x, t, rfl⟩ : ∃ x t, l = x :: t := by
      cases l with
      | nil => exact absurd (.inl (by simp)) hc
      | cons x t => exact ⟨x, t, rfl⟩
    have hx : x ≠ 0 := fun e => hc (.inr (.inr e))
    have hx2 := hl x (by simp)
    have ht := val_bound t (fun y hy => hl y (by simp [hy]))
    have hpos : 0 < val (x :: t) := by
      rw [val_cons]
      have := Nat.pow_pos (n := t.length) (show 0 < 256 by decide)
      have h2 : 0 < x * ((256 ^ t.length : Nat) : Int) := Int.mul_pos (by omega) (by omega)
      omega
    refine ⟨hpos, by omega, ?_⟩
    unfold numR
    rw [if_neg (by omega)]
    obtain ⟨V, hV⟩ : ∃ V : Nat, val (x :: t) = (V : Int) := ⟨(val (x :: t)).toNat, by omega⟩
    have h8 := strip_be_more V (x :: t).length (by omega) (8 - (x :: t).length)
    rw [show (x :: t).length + (8 - (x :: t).length) = 8 by omega] at h8
    rw [hV, h8, ← hV, be_val _ (x :: t) rfl hl, strip, if_neg hx]
end Go.Proofs.Ytekgienbhpknlaa.Q
end
section
namespace Go.Proofs.Ytekgienbhpknlaa.G
open Go Go.RowKit Go.Proofs.YtekgienbhpknlaaW.PrintWords Go.Proofs.YtekgienbhpknlaaW.PrintLast Go.Proofs.YtekgienbhpknlaaW.PrintMore Go.Proofs.Ytekgienbhpknlaa.PL
def getL : Nat → List Int → Int → List S40 → Option (List S40 × Int)
  | 0, _, _, _ => none
  | k + 1, xs, last, out => if 0 < (xs.length : Int) then (if xs.length < 2 then some ([], 14) else (if 0 ≤ rd xs 0 ∧ rd xs 0 < 256 ∧ 0 ≤ rd xs 1 ∧ rd xs 1 < 256 then (if rd xs 0 ≤ last then some ([], 13) else (if (xs.length : Int) < 2 + rd xs 1 then some ([], 14) else (if out.length < 4398046511104 then getL k (xs.drop (2 + rd xs 1).toNat) (rd xs 0) (out ++ [(⟨rd xs 0, (xs.take (2 + rd xs 1).toNat).drop 2⟩ : S40)]) else none))) else none)) else some (out, 0)
def getF (xs : List Int) : Option (List S40 × Int) := getL (xs.length + 1) xs 0 []
theorem get_field {W : World} {ok : Nat → Prop} {ad : Addr} {xs : List Int} {A2 : Option Addr} (h : Kd.F (Kd.int .u8) W ok (some ad) xs.length xs) (m : Nat) (h2 : 2 ≤ m) (hm : m ≤ xs.length) (hA : A2 = if m = (2 : Int).toNat then some ad else (some ad).map (·.add ((2 : Int).toNat * 1))) :
    Kd.F (Kd.int .u8) W ok A2 ((xs.take m).drop 2).length ((xs.take m).drop 2) := by
  by_cases hm2 : m = 2
  · subst hm2
    rw [if_pos (show 2 = (2 : Int).toNat from rfl)] at hA
    subst hA
    rw [show (xs.take 2).drop 2 = [] from List.drop_eq_nil_of_le (by rw [List.length_take]; omega)]
    exact Kd.F_take (m := 0) h (Nat.zero_le _)
  · rw [if_neg (show ¬ m = (2 : Int).toNat from hm2)] at hA
    have := Kd.F_mid (lo := 2) (hi := m) (c := xs.length + 3) h h2 hm (by omega)
    rw [if_neg (by omega)] at this
    rw [hA]
    exact this
set_option maxRecDepth 100000 in
set_option maxHeartbeats 4000000 in
theorem get_calls (P0_ : Nat → Prop) (A0 : Option Addr) (c0 : Nat) (l0 : List Int) (r1 : List S40) (r2 : Int) (w : World) (hs0 : Kd.V (Kd.int .u8) 5 w w.heap.size (fun k_ => P0_ k_) (.slice A0 l0.length c0) l0) (h : getF l0 = some (r1, r2)) :
    Calls Try.prog 21 #[.slice A0 l0.length c0] w fun e w' => ∃ v0_ : Value, e = .returned (.tuple #[v0_, .int .i64 r2]) ∧ Kd.N k40 40 w' w.heap.size (fun k_ => (P0_ k_ ∨ w.heap.size ≤ k_)) v0_ r1 ∧ Below w.heap.size w w' := by
  unfold getF at h
  generalize l0.length + 1 = k at h
  have H' := Aside0.mk h
  have HV := Aside0.mk hs0
  clear h hs0
  go_enter Try.func21, Try.ntmps21
  go_wp2
  have HZ : Blk (w.alloc (.cells #[.slice A0 l0.length c0, .int .i64 0] 59)) w.heap.size #[.slice A0 l0.length c0, .int .i64 0] 59 := Blk.new w _ _
  have HB := below_alloc (Below.refl w.heap.size w) (.cells #[.slice A0 l0.length c0, .int .i64 0] 59)
  have HV1 := Kd.V_alloc (Kd.V_mono (ok' := fun k_ => ((P0_ k_ ∨ w.heap.size ≤ k_) ∧ k_ ≠ w.heap.size) ∧ some k_ ≠ (Value.slice none 0 0).ownBlock) (Kd.V_bound HV.out) (fun k_ hk => ⟨⟨.inl hk.1, by have := hk.2; omega⟩, by simp [Value.ownBlock]⟩)) (.cells #[.slice A0 l0.length c0, .int .i64 0] 59)
  go_loopg [6] k (fun kq v6 w' => ∃ (xs : List Int) (A : Option Addr) (c : Nat) (last : Int) (out : List S40), Aside0 (getL kq xs last out = some (r1, r2)) ∧ Aside0 (kq ≤ k) ∧ Aside0 (Blk w' w.heap.size #[.slice A xs.length c, .int .i64 last] 59) ∧ Aside0 (Kd.V (Kd.int .u8) 5 w' w.heap.size (fun k_ => ((P0_ k_ ∨ w.heap.size ≤ k_) ∧ k_ ≠ w.heap.size) ∧ some k_ ≠ (v6 : Value).ownBlock) (.slice A xs.length c) xs) ∧ Aside0 (Kd.N k40 40 w' w.heap.size (fun k_ => (P0_ k_ ∨ w.heap.size ≤ k_) ∧ k_ ≠ w.heap.size) v6 out) ∧ Aside0 (Below w.heap.size w w'))
  case atStart => exact ⟨l0, A0, c0, 0, [], H', ⟨Nat.le_refl _⟩, ⟨HZ⟩, ⟨HV1⟩, ⟨Kd.N_nil _ _ _ _ _⟩, ⟨HB⟩⟩
  case round =>
    clear H' HZ HB HV1 HV
    obtain ⟨xs, A, c, last, out, HA, HK1, HZ, HV, HN, HB⟩ := hrel
    cases gk with
    | zero => exact absurd HA.out (by simp [getL])
    | succ k1 =>
      have H := HA.out
      clear HA
      simp only [getL] at H
      by_cases c1 : 0 < (xs.length : Int)
      · rw [if_pos c1] at H
        have hc0 := HZ.out.cell 0 _ rfl
        by_cases c2 : xs.length < 2
        · rw [if_pos c2] at H
          simp only [Option.some.injEq, Prod.mk.injEq] at H
          obtain ⟨rfl, rfl⟩ := H
          go_wp2_with (first | (go_at_call 36; refine (next_short w.heap.size A xs.length c last _ HZ.out c2).mono ?_; rintro e w2 ⟨rfl, hb⟩))
          go_ret2
          exact ⟨_, rfl, Kd.N_nil _ _ _ _ _, below_alloc (below_step HB.out hb) _⟩
        · rw [if_neg c2] at H
          by_cases c3 : 0 ≤ rd xs 0 ∧ rd xs 0 < 256 ∧ 0 ≤ rd xs 1 ∧ rd xs 1 < 256
          · rw [if_pos c3] at H
            obtain ⟨b0, b1, b2, b3⟩ := c3
            obtain ⟨ad, eA, h0⟩ := Kd.at_int (Kd.V_reads' HV.out).2.2 0 (by omega) (by omega)
            obtain ⟨ad', eA', h1⟩ := Kd.at_int (Kd.V_reads' HV.out).2.2 1 (by omega) (by omega)
            obtain rfl : ad = ad' := Option.some.inj (eA.symm.trans eA')
            clear eA'
            replace h0 : wr.cell? ad = some (.int .u8 (rd xs 0)) := h0
            replace h1 : wr.cell? ⟨ad.block, ad.off + 1, none⟩ = some (.int .u8 (rd xs 1)) := h1
            subst eA
            generalize e0 : rd xs 0 = x0 at *
            generalize e1 : rd xs 1 = x1 at *
            by_cases c4 : x0 ≤ last
            · rw [if_pos c4] at H
              simp only [Option.some.injEq, Prod.mk.injEq] at H
              obtain ⟨rfl, rfl⟩ := H
              go_wp2_with (first | (go_at_call 36; refine (next_order w.heap.size ad xs.length c last x0 x1 _ HZ.out (by omega) h0 h1 b0 b1 b2 b3 c4).mono ?_; rintro e w2 ⟨rfl, hb⟩))
              go_ret2
              exact ⟨_, rfl, Kd.N_nil _ _ _ _ _, below_alloc (below_step HB.out hb) _⟩
            · rw [if_neg c4] at H
              by_cases c5 : (xs.length : Int) < 2 + x1
              · rw [if_pos c5] at H
                simp only [Option.some.injEq, Prod.mk.injEq] at H
                obtain ⟨rfl, rfl⟩ := H
                go_wp2_with (first | (go_at_call 36; refine (next_len w.heap.size ad xs.length c last x0 x1 _ HZ.out (by omega) h0 h1 b0 b1 b2 b3 c4 c5).mono ?_; rintro e w2 ⟨rfl, hb⟩))
                go_ret2
                exact ⟨_, rfl, Kd.N_nil _ _ _ _ _, below_alloc (below_step HB.out hb) _⟩
              · rw [if_neg c5] at H
                by_cases c6 : out.length < 4398046511104
                · rw [if_pos c6] at H
                  obtain ⟨A2, hA2⟩ : ∃ A2, A2 = if (2 + x1).toNat = (2 : Int).toNat then some ad else (some ad).map (·.add ((2 : Int).toNat * 1)) := ⟨_, rfl⟩
                  obtain ⟨A3, hA3⟩ : ∃ A3, A3 = if c = (2 + x1).toNat then some ad else (some ad).map (·.add ((2 + x1).toNat * 1)) := ⟨_, rfl⟩
                  have hroom : xs.length ≤ c := (Kd.V_reads' HV.out).2.1
                  have HF := (Kd.V_at (base := w.heap.size) HV.out).2.2
                  have HF3 := Kd.F_cut (m := (2 + x1).toNat) (c := c) HF (by omega) hroom
                  replace HF3 : Kd.F (Kd.int .u8) wr (fun k_ => ((P0_ k_ ∨ w.heap.size ≤ k_) ∧ k_ ≠ w.heap.size) ∧ some k_ ≠ (u6 : Value).ownBlock) A3 (xs.drop (2 + x1).toNat).length (xs.drop (2 + x1).toNat) := by rw [hA3]; exact HF3
                  have HF2 : Kd.F (Kd.int .u8) wr (fun k_ => ((P0_ k_ ∨ w.heap.size ≤ k_) ∧ k_ ≠ w.heap.size) ∧ some k_ ≠ (u6 : Value).ownBlock) A2 ((xs.take (2 + x1).toNat).drop 2).length ((xs.take (2 + x1).toNat).drop 2) := get_field HF (2 + x1).toNat (by omega) (by omega) hA2
                  have l2 : ((xs.take (2 + x1).toNat).drop 2).length = (2 + x1).toNat - 2 := by rw [List.length_drop, List.length_take]; omega
                  have l3 : (xs.drop (2 + x1).toNat).length = xs.length - (2 + x1).toNat := List.length_drop
                  generalize hy2 : (xs.take (2 + x1).toNat).drop 2 = y2 at *
                  generalize hy3 : xs.drop (2 + x1).toNat = y3 at *
                  have hcap : xs.length - (2 + x1).toNat ≤ c - (2 + x1).toNat := Nat.sub_le_sub_right hroom _
                  have H' := Aside0.mk H
                  clear H
                  have HC := Aside0.mk c6
                  have L2 := Aside0.mk l2
                  have L3 := Aside0.mk l3
                  have HA2 := Aside0.mk hA2
                  have HA3 := Aside0.mk hA3
                  have HR := Aside0.mk hroom
                  have HCAP := Aside0.mk hcap
                  clear c6 l2 l3 hA2 hA3 hcap hroom hy2 hy3
                  go_wp2_with (first
                    | (go_at_call 36; refine (next_ok w.heap.size ad xs.length c last x0 x1 _ HZ.out (by omega) h0 h1 b0 b1 b2 b3 c4 c5 HR.out A2 A3 HA2.out HA3.out).mono ?_; rintro e w2 ⟨rfl, hz, hb, hk⟩; have e22 : (2 + x1).toNat - (2 : Int).toNat = y2.length := L2.out.symm; rw [e22]; clear e22; rw [← L3.out] at hz; have g2 := Aside0.mk (Kd.F_alloc (Kd.F_kept HF2 hk (fun k_ h_ => h_.1.2)) (.cells #[.int .i64 x0, .slice A2 y2.length y2.length] 40)); have g3 := Aside0.mk (Kd.F_alloc (Kd.F_kept HF3 hk (fun k_ h_ => h_.1.2)) (.cells #[.int .i64 x0, .slice A2 y2.length y2.length] 40)); have gN := Aside0.mk (Kd.N_alloc (Kd.N_kept HN.out hk (fun k_ h_ => h_.2)) (.cells #[.int .i64 x0, .slice A2 y2.length y2.length] 40)); have gB := Aside0.mk (below_alloc (HB.out.trans hb) (.cells #[.int .i64 x0, .slice A2 y2.length y2.length] 40)); have gZ := Aside0.mk (hz.alloc (.cells #[.int .i64 x0, .slice A2 y2.length y2.length] 40)); clear hz hb hk HF2 HF3 HF h0 h1 hc0 HZ HV HN HB)
                    | ((with_reducible refine gate_builtin (b := .append) (xs := #[.tmp 28, .tmp 30]) rfl ?_); at_builtin; refine Kd.N_append k40 (w0 := w) w.heap.size rfl (.tmp 28) (.tmp 30) 22 40 (.agg #[(.int .i64 0), (.slice none 0 0)]) 32 rfl Try.underlying22 info40 rfl (by decide) (by omega) u6 out (⟨x0, y2⟩ : S40) [.int .i64 x0, .slice A2 y2.length y2.length] (fun k_ => (P0_ k_ ∨ w.heap.size ≤ k_) ∧ k_ ≠ w.heap.size) (fun k_ => ((P0_ k_ ∨ w.heap.size ≤ k_) ∧ k_ ≠ w.heap.size) ∧ some k_ ≠ (u6 : Value).ownBlock) rfl (by rw [World.size_alloc]; rfl) ?aP (fun _ hk => hk) ?aF gN.out gB.out gB.out.size ?aL ?_; (case aP => exact k40_mkF _ _ (⟨x0, y2⟩ : S40) (Nat.le_refl _) g2.out); (case aF => exact fun k_ hk => ⟨.inr (Nat.le_trans gB.out.size hk), by have := gZ.out.lt; omega⟩); (case aL => have := HC.out; omega); intro v1 w3 ho hb hg hat; have n1 := Aside0.mk ho; have n2 := Aside0.mk hb; have n3 := Aside0.mk (Kd.F_after g3.out hg hat); have n4 := Aside0.mk (show Blk w3 w.heap.size _ _ from blk_grown gZ.out hg (Kd.N_away gN.out (fun k_ h_ => h_.2))); clear ho hb hg hat gN gB gZ g2 g3))
                  go_roundg k1
                  case measure => have := HK1.out; omega
                  case rel => exact ⟨y3, A3, c - (2 + x1).toNat, x0, out ++ [(⟨x0, y2⟩ : S40)], H', ⟨by have := HK1.out; omega⟩, n4, ⟨Kd.V_mk (by rw [L3.out]; exact HCAP.out) n3.out⟩, n1, n2⟩
                · rw [if_neg c6] at H
                  exact absurd H (by simp)
          · rw [if_neg c3] at H
            exact absurd H (by simp)
      · rw [if_neg c1] at H
        simp only [Option.some.injEq, Prod.mk.injEq] at H
        obtain ⟨rfl, rfl⟩ := H
        have hc0 := HZ.out.cell 0 _ rfl
        go_wp2
        go_ret2
        exact ⟨_, rfl, Kd.N_mono HN.out (fun _ h_ => h_.1), HB.out⟩
end Go.Proofs.Ytekgienbhpknlaa.G
end
section
namespace Go.Proofs.Ytekgienbhpknlaa.PL
open Go.RowKit Go.Proofs.YtekgienbhpknlaaW.PrintWords Go.Proofs.YtekgienbhpknlaaW.PrintLast Go.Proofs.YtekgienbhpknlaaW.PrintMore
attribute [local go_sem] max2_int min2_int max_two min_two max_three min_three max_four min_four   -- for this text's walks alone
set_option linter.unusedVariables false
set_option linter.unusedSimpArgs false

theorem eqA44 (d : Nat) (w : World) (x0 y0 : Int) (x1 y1 : Int) :
    (Op.equalIn (d + 2) 44 (.agg #[.int .i64 x0, .int .i64 x1]) (.agg #[.int .i64 y0, .int .i64 y1])).run Try.prog w = .ok (x0 == y0 && (x1 == y1)) w := by
  refine eqA_of Try.underlying44 (by kernel_rfl) ?_
  refine eqf_cons (by rfl) (by go_simp; rfl) (by go_simp; rfl) (by go_simp) ?_
  exact eqf_last (by rfl) (by go_simp; rfl) (by go_simp; rfl) (by go_simp)
end Go.Proofs.Ytekgienbhpknlaa.PL
end
section
namespace Go.Proofs.Ytekgienbhpknlaa.PL
open Go.RowKit Go.Proofs.YtekgienbhpknlaaW.PrintWords Go.Proofs.YtekgienbhpknlaaW.PrintLast Go.Proofs.YtekgienbhpknlaaW.PrintMore
attribute [local go_sem] max2_int min2_int max_two min_two max_three min_three max_four min_four   -- for this text's walks alone
set_option linter.unusedVariables false
set_option linter.unusedSimpArgs false

theorem eqA42 (d : Nat) (w : World) (x0 y0 : Int) (x1 y1 : Int) (x2 y2 : Int) (x3 y3 : Int) (x4 y4 : Int) (x5 y5 : Int) (x6 y6 : Int) (x7 y7 : Int) (x8 y8 : Int) (x9 y9 : Int) (x10 y10 : Int) :
    (Op.equalIn (d + 2) 42 (.agg #[.int .i64 x0, .int .i64 x1, .int .i64 x2, .int .i64 x3, .int .i64 x4, .int .i64 x5, .int .i64 x6, .int .i64 x7, .int .i64 x8, .int .i64 x9, .int .i64 x10]) (.agg #[.int .i64 y0, .int .i64 y1, .int .i64 y2, .int .i64 y3, .int .i64 y4, .int .i64 y5, .int .i64 y6, .int .i64 y7, .int .i64 y8, .int .i64 y9, .int .i64 y10])).run Try.prog w = .ok (x0 == y0 && (x1 == y1 && (x2 == y2 && (x3 == y3 && (x4 == y4 && (x5 == y5 && (x6 == y6 && (x7 == y7 && (x8 == y8 && (x9 == y9 && (x10 == y10))))))))))) w := by
  refine eqA_of Try.underlying42 (by kernel_rfl) ?_
  refine eqf_cons (by rfl) (by go_simp; rfl) (by go_simp; rfl) (by go_simp) ?_
  refine eqf_cons (by rfl) (by go_simp; rfl) (by go_simp; rfl) (by go_simp) ?_
  refine eqf_cons (by rfl) (by go_simp; rfl) (by go_simp; rfl) (by go_simp) ?_
  refine eqf_cons (by rfl) (by go_simp; rfl) (by go_simp; rfl) (by go_simp) ?_
  refine eqf_cons (by rfl) (by go_simp; rfl) (by go_simp; rfl) (by go_simp) ?_
  refine eqf_cons (by rfl) (by go_simp; rfl) (by go_simp; rfl) (by go_simp) ?_
  refine eqf_cons (by rfl) (by go_simp; rfl) (by go_simp; rfl) (by go_simp) ?_
  refine eqf_cons (by rfl) (by go_simp; rfl) (by go_simp; rfl) (by go_simp) ?_
  refine eqf_cons (by rfl) (by go_simp; rfl) (by go_simp; rfl) (by go_simp) ?_
  refine eqf_cons (by rfl) (by go_simp; rfl) (by go_simp; rfl) (by go_simp) ?_
  exact eqf_last (by rfl) (by go_simp; rfl) (by go_simp; rfl) (by go_simp)
theorem eqA46 (d : Nat) (w : World) (x0 y0 : Int) (x1 y1 : Int) (x2 y2 : Int) (x3 y3 : Int) (x4 y4 : Int) (x5 y5 : Int) (x6 y6 : Int) (x7 y7 : Int) (x8 y8 : Int) (x9 y9 : Int) (x10 y10 : Int) (x11 y11 : Int) (x12 y12 : Int) (x13 y13 : Int) (x14 y14 : Int) :
    (Op.equalIn (d + 3) 46 (.agg #[.int .i64 x0, .int .i64 x1, .int .i64 x2, .int .i64 x3, .int .i64 x4, .int .i64 x5, .int .i64 x6, .int .i64 x7, .int .i64 x8, .int .i64 x9, .int .i64 x10, .int .i64 x11, .int .i64 x12, .int .i64 x13, .int .i64 x14]) (.agg #[.int .i64 y0, .int .i64 y1, .int .i64 y2, .int .i64 y3, .int .i64 y4, .int .i64 y5, .int .i64 y6, .int .i64 y7, .int .i64 y8, .int .i64 y9, .int .i64 y10, .int .i64 y11, .int .i64 y12, .int .i64 y13, .int .i64 y14])).run Try.prog w = .ok ((x0 == y0 && (x1 == y1 && (x2 == y2 && (x3 == y3 && (x4 == y4 && (x5 == y5 && (x6 == y6 && (x7 == y7 && (x8 == y8 && (x9 == y9 && (x10 == y10))))))))))) && (x11 == y11 && ((x12 == y12 && (x13 == y13)) && (x14 == y14)))) w := by
  refine eqA_of Try.underlying46 (by kernel_rfl) ?_
  refine eqf_cons (by rfl) (by go_simp) (by go_simp) (eqA42 (d + 0) w _ _ _ _ _ _ _ _ _ _ _ _ _ _ _ _ _ _ _ _ _ _) ?_
  refine eqf_cons (by rfl) (by go_simp; rfl) (by go_simp; rfl) (by go_simp) ?_
  refine eqf_cons (by rfl) (by go_simp) (by go_simp) (eqA44 (d + 0) w _ _ _ _) ?_
  exact eqf_last (by rfl) (by go_simp; rfl) (by go_simp; rfl) (by go_simp)
end Go.Proofs.Ytekgienbhpknlaa.PL
end
section
namespace Go.Proofs.Ytekgienbhpknlaa.PL
open Go.RowKit Go.Proofs.YtekgienbhpknlaaW.PrintWords Go.Proofs.YtekgienbhpknlaaW.PrintLast Go.Proofs.YtekgienbhpknlaaW.PrintMore
attribute [local go_sem] max2_int min2_int max_two min_two max_three min_three max_four min_four   -- for this text's walks alone
set_option linter.unusedVariables false
set_option linter.unusedSimpArgs false
attribute [local go_sem high] eqA46

/-! ### fields_Name: function 30 -/
def fields_Name.j0 : Nat → Int → Bool → Option (Int × Bool)
  | 0, _, _ => none
  | k + 1, x0, x4 => if x4 = true then (some (0, false)) else (if x0 = 8 then (some (2, true)) else (if x0 = 9 then (some (3, true)) else (some (1, true))))
def fields_Name.f (k : Nat) (a0 : Int) : Option (Int × Bool) := if a0 < 1 then (fields_Name.j0 k a0 true) else (fields_Name.j0 k a0 (decide (a0 > 13)))
theorem fields_Name.mono_l : ∀ k, (∀ y0 y1, LeO (fields_Name.j0 k y0 y1) (fields_Name.j0 (k + 1) y0 y1))
  | 0 => fun _ _ r h => by simp [fields_Name.j0] at h
  | k + 1 => by
    have ih0 := fields_Name.mono_l k
    · intro y0 y1
      unfold fields_Name.j0
      repeat' first
      | (with_reducible exact ih0 _ _)
      | (with_reducible exact LeO.refl _)
      | (with_reducible exact LeO.none _)
      | (with_reducible refine LeO.ite ?_ ?_)
      | (with_reducible refine LeO.bind ?_ (fun _ => ?_))
      | exact ih0 _ _
      | exact LeO.none _
      | refine LeO.ite ?_ ?_
      | refine LeO.bind ?_ (fun _ => ?_)
theorem fields_Name.mono : ∀ a0 k, LeO (fields_Name.f k a0) (fields_Name.f (k + 1) a0) := by
  intro a0 k
  have ih0 := fields_Name.mono_l k
  unfold fields_Name.f
  repeat' first
      | (with_reducible exact ih0 _ _)
      | (with_reducible exact LeO.refl _)
      | (with_reducible exact LeO.none _)
      | (with_reducible refine LeO.ite ?_ ?_)
      | (with_reducible refine LeO.bind ?_ (fun _ => ?_))
      | exact ih0 _ _
      | exact LeO.none _
      | refine LeO.ite ?_ ?_
      | refine LeO.bind ?_ (fun _ => ?_)
set_option maxHeartbeats 8000000 in
set_option maxRecDepth 100000 in
theorem fields_Name.calls (k : Nat) (a0 : Int) (r1 : Int) (r2 : Bool) (w : World) (h : fields_Name.f k a0 = some (r1, r2)) :
    Calls Try.prog 30 #[.int .i64 a0] w fun e w' => e = .returned (.tuple #[.int .i64 r1, .bool r2]) ∧ Drawn0 w w' := by
  have H : (if a0 < 1 then (fields_Name.j0 k a0 true) else (fields_Name.j0 k a0 (decide (a0 > 13)))) = some (r1, r2) := h
  clear h
  have HC2 := Aside0.mk H
  clear H
  go_enter Try.func30, Try.ntmps30
  go_upto_region 1 with (fail)
  go_cut [4] (fun v4 wc => ∃ (kq : Nat) (x4_1 : Bool), v4 = .bool x4_1 ∧ Aside0 (fields_Name.j0 kq a0 x4_1 = some (r1, r2)) ∧ Aside0 (kq ≤ k) ∧ Drawn0 w wc)
  case first =>
    have H := HC2.out
    clear HC2
    by_cases c3 : a0 < 1
    · rw [if_pos c3] at H
      have c3b0 : decide (a0 < 1) = true := decide_eq_true c3
      clear c3
      (first | rw [c3b0] | (simp only [i64_w, i32_w]; rw [c3b0]) | skip)
      have H' := Aside0.mk H
      clear H
      go_wp2
      go_meet
      case rel => exact ⟨_, (true), (by first | rfl | (simp; done) | (simp [*]; done)), H', ⟨by first | omega | exact Nat.le_refl _⟩, by repeat (first | exact Drawn0.refl _ | apply Drawn0.step)⟩
    · rw [if_neg c3] at H
      have c3b0 : decide (a0 < 1) = false := decide_eq_false c3
      clear c3
      (first | rw [c3b0] | (simp only [i64_w, i32_w]; rw [c3b0]) | skip)
      have H' := Aside0.mk H
      clear H
      go_wp2
      go_meet
      case rel => exact ⟨_, (decide (a0 > 13)), (by first | rfl | (simp; done) | (simp [*]; done)), H', ⟨by first | omega | exact Nat.le_refl _⟩, by repeat (first | exact Drawn0.refl _ | apply Drawn0.step)⟩
  case rest =>
    clear HC2
    try clear p2
    try clear c3
    try clear c3b0
    obtain ⟨kq, x4_1, rfl, HA, HJ1, ⟨mc1, rfl⟩⟩ := hcut
    cases kq with
    | zero => exact absurd HA.out (by simp [fields_Name.j0])
    | succ kj1 =>
      have H := HA.out
      clear HA
      simp only [fields_Name.j0] at H
      by_cases c4 : x4_1 = true
      · subst c4
        have H1 : (some (0, false)) = some (r1, r2) := by rw [if_pos rfl] at H; exact H
        clear H
        have H := H1
        clear H1
        simp only [Option.some.injEq, Prod.mk.injEq] at H
        obtain ⟨rfl, rfl⟩ := H
        go_wp2
        go_ret2
        exact ⟨by first | rfl | (simp; done) | (simp [*]; done), by repeat (first | exact Drawn0.refl _ | apply Drawn0.step)⟩
      · replace c4 := Bool.eq_false_iff.mpr c4
        subst c4
        have H1 : (if a0 = 8 then (some (2, true)) else (if a0 = 9 then (some (3, true)) else (some (1, true)))) = some (r1, r2) := by rw [if_neg (show ¬ (false = true) by decide)] at H; exact H
        clear H
        have H := H1
        clear H1
        by_cases c5 : a0 = 8
        · rw [if_pos c5] at H
          have c5b0 : (a0 == 8) = true := beq_iff_eq.mpr c5
          have c5b1 : (a0 != 8) = false := bne_eq_false_iff_eq.mpr c5
          clear c5
          simp only [Option.some.injEq, Prod.mk.injEq] at H
          obtain ⟨rfl, rfl⟩ := H
          go_wp2
          go_ret2
          exact ⟨by first | rfl | (simp; done) | (simp [*]; done), by repeat (first | exact Drawn0.refl _ | apply Drawn0.step)⟩
        · rw [if_neg c5] at H
          have c5b0 : (a0 == 8) = false := beq_eq_false_iff_ne.mpr c5
          have c5b1 : (a0 != 8) = true := bne_iff_ne.mpr c5
          by_cases c6 : a0 = 9
          · rw [if_pos c6] at H
            have c6b0 : (a0 == 9) = true := beq_iff_eq.mpr c6
            have c6b1 : (a0 != 9) = false := bne_eq_false_iff_eq.mpr c6
            clear c6
            simp only [Option.some.injEq, Prod.mk.injEq] at H
            obtain ⟨rfl, rfl⟩ := H
            go_wp2
            go_ret2
            exact ⟨by first | rfl | (simp; done) | (simp [*]; done), by repeat (first | exact Drawn0.refl _ | apply Drawn0.step)⟩
          · rw [if_neg c6] at H
            have c6b0 : (a0 == 9) = false := beq_eq_false_iff_ne.mpr c6
            have c6b1 : (a0 != 9) = true := bne_iff_ne.mpr c6
            simp only [Option.some.injEq, Prod.mk.injEq] at H
            obtain ⟨rfl, rfl⟩ := H
            go_wp2
            go_ret2
            exact ⟨by first | rfl | (simp; done) | (simp [*]; done), by repeat (first | exact Drawn0.refl _ | apply Drawn0.step)⟩

/-! ### gatelineref18_Name: function 31 -/
def gatelineref18_Name.j0 : Nat → Int → Bool → Option (Int × Bool)
  | 0, _, _ => none
  | k + 1, x0, x9 => if x9 = true then (some (0, false)) else (if x0 = 8 then (some (2, true)) else (if x0 = 9 then (some (3, true)) else (some (1, true))))
def gatelineref18_Name.f (k : Nat) (a0 : Int) : Option (Int × Bool) := if a0 < 1 then (gatelineref18_Name.j0 k a0 true) else (gatelineref18_Name.j0 k a0 (decide (a0 > 13)))
theorem gatelineref18_Name.mono_l : ∀ k, (∀ y0 y1, LeO (gatelineref18_Name.j0 k y0 y1) (gatelineref18_Name.j0 (k + 1) y0 y1))
  | 0 => fun _ _ r h => by simp [gatelineref18_Name.j0] at h
  | k + 1 => by
    have ih0 := gatelineref18_Name.mono_l k
    · intro y0 y1
      unfold gatelineref18_Name.j0
      repeat' first
      | (with_reducible exact ih0 _ _)
      | (with_reducible exact LeO.refl _)
      | (with_reducible exact LeO.none _)
      | (with_reducible refine LeO.ite ?_ ?_)
      | (with_reducible refine LeO.bind ?_ (fun _ => ?_))
      | exact ih0 _ _
      | exact LeO.none _
      | refine LeO.ite ?_ ?_
      | refine LeO.bind ?_ (fun _ => ?_)
theorem gatelineref18_Name.mono : ∀ a0 k, LeO (gatelineref18_Name.f k a0) (gatelineref18_Name.f (k + 1) a0) := by
  intro a0 k
  have ih0 := gatelineref18_Name.mono_l k
  unfold gatelineref18_Name.f
  repeat' first
      | (with_reducible exact ih0 _ _)
      | (with_reducible exact LeO.refl _)
      | (with_reducible exact LeO.none _)
      | (with_reducible refine LeO.ite ?_ ?_)
      | (with_reducible refine LeO.bind ?_ (fun _ => ?_))
      | exact ih0 _ _
      | exact LeO.none _
      | refine LeO.ite ?_ ?_
      | refine LeO.bind ?_ (fun _ => ?_)
set_option maxHeartbeats 8000000 in
set_option maxRecDepth 100000 in
theorem gatelineref18_Name.calls (k : Nat) (a0 : Int) (r1 : Int) (r2 : Bool) (w : World) (h : gatelineref18_Name.f k a0 = some (r1, r2)) :
    Calls Try.prog 31 #[.int .i64 a0] w fun e w' => e = .returned (.tuple #[.int .i64 r1, .bool r2]) ∧ Drawn0 w w' := by
  have H : (if a0 < 1 then (gatelineref18_Name.j0 k a0 true) else (gatelineref18_Name.j0 k a0 (decide (a0 > 13)))) = some (r1, r2) := h
  clear h
  have HC2 := Aside0.mk H
  clear H
  go_enter Try.func31, Try.ntmps31
  go_upto_region 1 with (fail)
  go_cut [9] (fun v9 wc => ∃ (kq : Nat) (x9_1 : Bool), v9 = .bool x9_1 ∧ Aside0 (gatelineref18_Name.j0 kq a0 x9_1 = some (r1, r2)) ∧ Aside0 (kq ≤ k) ∧ Drawn0 w wc)
  case first =>
    have H := HC2.out
    clear HC2
    by_cases c3 : a0 < 1
    · rw [if_pos c3] at H
      have c3b0 : decide (a0 < 1) = true := decide_eq_true c3
      clear c3
      (first | rw [c3b0] | (simp only [i64_w, i32_w]; rw [c3b0]) | skip)
      have H' := Aside0.mk H
      clear H
      go_wp2
      go_meet
      case rel => exact ⟨_, (true), (by first | rfl | (simp; done) | (simp [*]; done)), H', ⟨by first | omega | exact Nat.le_refl _⟩, by repeat (first | exact Drawn0.refl _ | apply Drawn0.step)⟩
    · rw [if_neg c3] at H
      have c3b0 : decide (a0 < 1) = false := decide_eq_false c3
      clear c3
      (first | rw [c3b0] | (simp only [i64_w, i32_w]; rw [c3b0]) | skip)
      have H' := Aside0.mk H
      clear H
      go_wp2
      go_meet
      case rel => exact ⟨_, (decide (a0 > 13)), (by first | rfl | (simp; done) | (simp [*]; done)), H', ⟨by first | omega | exact Nat.le_refl _⟩, by repeat (first | exact Drawn0.refl _ | apply Drawn0.step)⟩
  case rest =>
    clear HC2
    try clear p2
    try clear c3
    try clear c3b0
    obtain ⟨kq, x9_1, rfl, HA, HJ1, ⟨mc1, rfl⟩⟩ := hcut
    cases kq with
    | zero => exact absurd HA.out (by simp [gatelineref18_Name.j0])
    | succ kj1 =>
      have H := HA.out
      clear HA
      simp only [gatelineref18_Name.j0] at H
      by_cases c4 : x9_1 = true
      · subst c4
        have H1 : (some (0, false)) = some (r1, r2) := by rw [if_pos rfl] at H; exact H
        clear H
        have H := H1
        clear H1
        simp only [Option.some.injEq, Prod.mk.injEq] at H
        obtain ⟨rfl, rfl⟩ := H
        go_wp2
        go_ret2
        exact ⟨by first | rfl | (simp; done) | (simp [*]; done), by repeat (first | exact Drawn0.refl _ | apply Drawn0.step)⟩
      · replace c4 := Bool.eq_false_iff.mpr c4
        subst c4
        have H1 : (if a0 = 8 then (some (2, true)) else (if a0 = 9 then (some (3, true)) else (some (1, true)))) = some (r1, r2) := by rw [if_neg (show ¬ (false = true) by decide)] at H; exact H
        clear H
        have H := H1
        clear H1
        by_cases c5 : a0 = 8
        · rw [if_pos c5] at H
          have c5b0 : (a0 == 8) = true := beq_iff_eq.mpr c5
          have c5b1 : (a0 != 8) = false := bne_eq_false_iff_eq.mpr c5
          clear c5
          simp only [Option.some.injEq, Prod.mk.injEq] at H
          obtain ⟨rfl, rfl⟩ := H
          go_wp2
          go_ret2
          exact ⟨by first | rfl | (simp; done) | (simp [*]; done), by repeat (first | exact Drawn0.refl _ | apply Drawn0.step)⟩
        · rw [if_neg c5] at H
          have c5b0 : (a0 == 8) = false := beq_eq_false_iff_ne.mpr c5
          have c5b1 : (a0 != 8) = true := bne_iff_ne.mpr c5
          by_cases c6 : a0 = 9
          · rw [if_pos c6] at H
            have c6b0 : (a0 == 9) = true := beq_iff_eq.mpr c6
            have c6b1 : (a0 != 9) = false := bne_eq_false_iff_eq.mpr c6
            clear c6
            simp only [Option.some.injEq, Prod.mk.injEq] at H
            obtain ⟨rfl, rfl⟩ := H
            go_wp2
            go_ret2
            exact ⟨by first | rfl | (simp; done) | (simp [*]; done), by repeat (first | exact Drawn0.refl _ | apply Drawn0.step)⟩
          · rw [if_neg c6] at H
            have c6b0 : (a0 == 9) = false := beq_eq_false_iff_ne.mpr c6
            have c6b1 : (a0 != 9) = true := bne_iff_ne.mpr c6
            simp only [Option.some.injEq, Prod.mk.injEq] at H
            obtain ⟨rfl, rfl⟩ := H
            go_wp2
            go_ret2
            exact ⟨by first | rfl | (simp; done) | (simp [*]; done), by repeat (first | exact Drawn0.refl _ | apply Drawn0.step)⟩

end Go.Proofs.Ytekgienbhpknlaa.PL
end
section
set_option linter.unusedVariables false
namespace Go.Proofs.Ytekgienbhpknlaa.G
open Go Go.RowKit Go.Proofs.YtekgienbhpknlaaW.PrintWords Go.Proofs.YtekgienbhpknlaaW.PrintLast Go.Proofs.YtekgienbhpknlaaW.PrintMore Go.Proofs.Ytekgienbhpknlaa.PL Go.Proofs.Ytekgienbhpknlaa.Q
/-- The number of a tag. -/
def numAt (v0 v1 v2 v3 v4 v5 v6 v7 v8 v9 v10 v11 v12 v13 v14 : Int) (tag : Int) : Int := if tag = 1 then v14 else if tag = 2 then v11 else if tag = 3 then v1 else if tag = 4 then v0 else if tag = 5 then v2 else if tag = 6 then v3 else if tag = 7 then v4 else if tag = 8 then v5 else if tag = 9 then v6 else if tag = 10 then v7 else if tag = 11 then v8 else if tag = 12 then v9 else v10
def verT (tag : Int) : Int := if tag = 8 then 2 else if tag = 9 then 3 else 1
def readA (v0 v1 v2 v3 v4 v5 v6 v7 v8 v9 v10 v11 v12 v13 v14 : Int) : Array Value := #[.int .i64 v0, .int .i64 v1, .int .i64 v2, .int .i64 v3, .int .i64 v4, .int .i64 v5, .int .i64 v6, .int .i64 v7, .int .i64 v8, .int .i64 v9, .int .i64 v10, .int .i64 v11, .int .i64 v12, .int .i64 v13, .int .i64 v14]
theorem readA_at (v0 v1 v2 v3 v4 v5 v6 v7 v8 v9 v10 v11 v12 v13 v14 : Int) (tag : Int) (h1 : 1 ≤ tag) (h2 : tag ≤ 13) : (readA v0 v1 v2 v3 v4 v5 v6 v7 v8 v9 v10 v11 v12 v13 v14)[offT tag]? = some (.int .i64 (numAt v0 v1 v2 v3 v4 v5 v6 v7 v8 v9 v10 v11 v12 v13 v14 tag)) := by
  have : tag = 1 ∨ tag = 2 ∨ tag = 3 ∨ tag = 4 ∨ tag = 5 ∨ tag = 6 ∨ tag = 7 ∨ tag = 8 ∨ tag = 9 ∨ tag = 10 ∨ tag = 11 ∨ tag = 12 ∨ tag = 13 := by omega
  rcases this with rfl | rfl | rfl | rfl | rfl | rfl | rfl | rfl | rfl | rfl | rfl | rfl | rfl <;> rfl
theorem name_f (tag : Int) (h1 : 1 ≤ tag) (h2 : tag ≤ 13) : fields_Name.f 9 tag = some (verT tag, true) := by
  have : tag = 1 ∨ tag = 2 ∨ tag = 3 ∨ tag = 4 ∨ tag = 5 ∨ tag = 6 ∨ tag = 7 ∨ tag = 8 ∨ tag = 9 ∨ tag = 10 ∨ tag = 11 ∨ tag = 12 ∨ tag = 13 := by omega
  rcases this with rfl | rfl | rfl | rfl | rfl | rfl | rfl | rfl | rfl | rfl | rfl | rfl | rfl <;> rfl
def fputL (v0 v1 v2 v3 v4 v5 v6 v7 v8 v9 v10 v11 v12 v13 v14 : Int) : Nat → Int → List S40 → List S40 × Int
  | 0, _, out => (out, 0)
  | d + 1, tag, out => if numAt v0 v1 v2 v3 v4 v5 v6 v7 v8 v9 v10 v11 v12 v13 v14 tag = 0 ∨ tag = 12 ∧ v1 ≠ 4 then fputL v0 v1 v2 v3 v4 v5 v6 v7 v8 v9 v10 v11 v12 v13 v14 d (tag + 1) out else if v14 < verT tag then ([], 18) else if (numR (numAt v0 v1 v2 v3 v4 v5 v6 v7 v8 v9 v10 v11 v12 v13 v14 tag)).2 = 0 then fputL v0 v1 v2 v3 v4 v5 v6 v7 v8 v9 v10 v11 v12 v13 v14 d (tag + 1) (out ++ [⟨tag, (numR (numAt v0 v1 v2 v3 v4 v5 v6 v7 v8 v9 v10 v11 v12 v13 v14 tag)).1⟩]) else ([], (numR (numAt v0 v1 v2 v3 v4 v5 v6 v7 v8 v9 v10 v11 v12 v13 v14 tag)).2)
def fputR (v0 v1 v2 v3 v4 v5 v6 v7 v8 v9 v10 v11 v12 v13 v14 : Int) : List S40 × Int := if isB v0 v1 v2 v3 v4 v5 v6 v7 v8 v9 v10 = true ∧ 0 ≤ v11 ∧ v11 < 100 ∧ v12 = 0 ∧ v13 = 0 ∧ 1 ≤ v14 ∧ v14 ≤ 3 then fputL v0 v1 v2 v3 v4 v5 v6 v7 v8 v9 v10 v11 v12 v13 v14 13 1 [] else ([], 1)
theorem box_one {w w1 : World} {c1 : Array Value} {t1 : TypeId} (hb : Below (w.alloc (.cells c1 t1)).heap.size (w.alloc (.cells c1 t1)) w1) : Blk w1 w.heap.size c1 t1 ∧ Below w.heap.size w w1 :=
  ⟨Blk.below (Blk.new w _ _) hb (by simp only [World.size_alloc]; omega), ((Below.refl _ w).alloc (Nat.le_refl _) _).trans (hb.mono (by simp only [World.size_alloc]; omega))⟩
attribute [local go_sem high] eqA44
set_option maxRecDepth 100000 in
set_option maxHeartbeats 1000000 in
theorem fput_isn (v0 v1 v2 v3 v4 v5 v6 v7 v8 v9 v10 v11 v12 v13 v14 : Int) (w : World) (hI : isB v0 v1 v2 v3 v4 v5 v6 v7 v8 v9 v10 = false)  :
    Calls Try.prog 28 #[.agg #[.int .i64 v0, .int .i64 v1, .int .i64 v2, .int .i64 v3, .int .i64 v4, .int .i64 v5, .int .i64 v6, .int .i64 v7, .int .i64 v8, .int .i64 v9, .int .i64 v10, .int .i64 v11, .int .i64 v12, .int .i64 v13, .int .i64 v14]] w fun e w' => e = .returned (.tuple #[.slice none 0 0, .int .i64 1]) ∧ Below w.heap.size w w' := by
  go_enter Try.func28, Try.ntmps28
  go_wp2_with (first
    | (go_at_call 35; refine (is_any _ _ _ _ _ _ _ _ _ _ _ _).mono ?_; rintro e w1 ⟨rfl, hb⟩; rw [hI]; have F1 := box_one (c1 := #[.int .i64 v0, .int .i64 v1, .int .i64 v2, .int .i64 v3, .int .i64 v4, .int .i64 v5, .int .i64 v6, .int .i64 v7, .int .i64 v8, .int .i64 v9, .int .i64 v10, .int .i64 v11, .int .i64 v12, .int .i64 v13, .int .i64 v14]) hb; clear hb; have e0 := F1.1.cell 0 _ rfl; have e1 := F1.1.cell 1 _ rfl; have e2 := F1.1.cell 2 _ rfl; have e3 := F1.1.cell 3 _ rfl; have e4 := F1.1.cell 4 _ rfl; have e5 := F1.1.cell 5 _ rfl; have e6 := F1.1.cell 6 _ rfl; have e7 := F1.1.cell 7 _ rfl; have e8 := F1.1.cell 8 _ rfl; have e9 := F1.1.cell 9 _ rfl; have e10 := F1.1.cell 10 _ rfl; have e11 := F1.1.cell 11 _ rfl; have e12 := F1.1.cell 12 _ rfl; have e13 := F1.1.cell 13 _ rfl; have e14 := F1.1.cell 14 _ rfl)
    | go_in)
  go_ret2
  exact ⟨rfl, F1.2⟩
set_option maxRecDepth 100000 in
set_option maxHeartbeats 1000000 in
theorem fput_key (v0 v1 v2 v3 v4 v5 v6 v7 v8 v9 v10 v11 v12 v13 v14 : Int) (w : World) (hI : isB v0 v1 v2 v3 v4 v5 v6 v7 v8 v9 v10 = true) (n1 : v11 < 0) :
    Calls Try.prog 28 #[.agg #[.int .i64 v0, .int .i64 v1, .int .i64 v2, .int .i64 v3, .int .i64 v4, .int .i64 v5, .int .i64 v6, .int .i64 v7, .int .i64 v8, .int .i64 v9, .int .i64 v10, .int .i64 v11, .int .i64 v12, .int .i64 v13, .int .i64 v14]] w fun e w' => e = .returned (.tuple #[.slice none 0 0, .int .i64 1]) ∧ Below w.heap.size w w' := by
  go_enter Try.func28, Try.ntmps28
  go_wp2_with (first
    | (go_at_call 35; refine (is_any _ _ _ _ _ _ _ _ _ _ _ _).mono ?_; rintro e w1 ⟨rfl, hb⟩; rw [hI]; have F1 := box_one (c1 := #[.int .i64 v0, .int .i64 v1, .int .i64 v2, .int .i64 v3, .int .i64 v4, .int .i64 v5, .int .i64 v6, .int .i64 v7, .int .i64 v8, .int .i64 v9, .int .i64 v10, .int .i64 v11, .int .i64 v12, .int .i64 v13, .int .i64 v14]) hb; clear hb; have e0 := F1.1.cell 0 _ rfl; have e1 := F1.1.cell 1 _ rfl; have e2 := F1.1.cell 2 _ rfl; have e3 := F1.1.cell 3 _ rfl; have e4 := F1.1.cell 4 _ rfl; have e5 := F1.1.cell 5 _ rfl; have e6 := F1.1.cell 6 _ rfl; have e7 := F1.1.cell 7 _ rfl; have e8 := F1.1.cell 8 _ rfl; have e9 := F1.1.cell 9 _ rfl; have e10 := F1.1.cell 10 _ rfl; have e11 := F1.1.cell 11 _ rfl; have e12 := F1.1.cell 12 _ rfl; have e13 := F1.1.cell 13 _ rfl; have e14 := F1.1.cell 14 _ rfl)
    | go_in)
  go_ret2
  exact ⟨rfl, F1.2⟩
set_option maxRecDepth 100000 in
set_option maxHeartbeats 1000000 in
theorem fput_big (v0 v1 v2 v3 v4 v5 v6 v7 v8 v9 v10 v11 v12 v13 v14 : Int) (w : World) (hI : isB v0 v1 v2 v3 v4 v5 v6 v7 v8 v9 v10 = true) (n1 : ¬ v11 < 0) (n2 : 100 ≤ v11) :
    Calls Try.prog 28 #[.agg #[.int .i64 v0, .int .i64 v1, .int .i64 v2, .int .i64 v3, .int .i64 v4, .int .i64 v5, .int .i64 v6, .int .i64 v7, .int .i64 v8, .int .i64 v9, .int .i64 v10, .int .i64 v11, .int .i64 v12, .int .i64 v13, .int .i64 v14]] w fun e w' => e = .returned (.tuple #[.slice none 0 0, .int .i64 1]) ∧ Below w.heap.size w w' := by
  go_enter Try.func28, Try.ntmps28
  go_wp2_with (first
    | (go_at_call 35; refine (is_any _ _ _ _ _ _ _ _ _ _ _ _).mono ?_; rintro e w1 ⟨rfl, hb⟩; rw [hI]; have F1 := box_one (c1 := #[.int .i64 v0, .int .i64 v1, .int .i64 v2, .int .i64 v3, .int .i64 v4, .int .i64 v5, .int .i64 v6, .int .i64 v7, .int .i64 v8, .int .i64 v9, .int .i64 v10, .int .i64 v11, .int .i64 v12, .int .i64 v13, .int .i64 v14]) hb; clear hb; have e0 := F1.1.cell 0 _ rfl; have e1 := F1.1.cell 1 _ rfl; have e2 := F1.1.cell 2 _ rfl; have e3 := F1.1.cell 3 _ rfl; have e4 := F1.1.cell 4 _ rfl; have e5 := F1.1.cell 5 _ rfl; have e6 := F1.1.cell 6 _ rfl; have e7 := F1.1.cell 7 _ rfl; have e8 := F1.1.cell 8 _ rfl; have e9 := F1.1.cell 9 _ rfl; have e10 := F1.1.cell 10 _ rfl; have e11 := F1.1.cell 11 _ rfl; have e12 := F1.1.cell 12 _ rfl; have e13 := F1.1.cell 13 _ rfl; have e14 := F1.1.cell 14 _ rfl)
    | go_in)
  go_ret2
  exact ⟨rfl, F1.2⟩
set_option maxRecDepth 100000 in
set_option maxHeartbeats 1000000 in
theorem fput_jou (v0 v1 v2 v3 v4 v5 v6 v7 v8 v9 v10 v11 v12 v13 v14 : Int) (w : World) (hI : isB v0 v1 v2 v3 v4 v5 v6 v7 v8 v9 v10 = true) (n1 : ¬ v11 < 0) (n2 : ¬ 100 ≤ v11) (n3 : (v12 == 0 && (v13 == 0)) = false) :
    Calls Try.prog 28 #[.agg #[.int .i64 v0, .int .i64 v1, .int .i64 v2, .int .i64 v3, .int .i64 v4, .int .i64 v5, .int .i64 v6, .int .i64 v7, .int .i64 v8, .int .i64 v9, .int .i64 v10, .int .i64 v11, .int .i64 v12, .int .i64 v13, .int .i64 v14]] w fun e w' => e = .returned (.tuple #[.slice none 0 0, .int .i64 1]) ∧ Below w.heap.size w w' := by
  go_enter Try.func28, Try.ntmps28
  go_wp2_with (first
    | (go_at_call 35; refine (is_any _ _ _ _ _ _ _ _ _ _ _ _).mono ?_; rintro e w1 ⟨rfl, hb⟩; rw [hI]; have F1 := box_one (c1 := #[.int .i64 v0, .int .i64 v1, .int .i64 v2, .int .i64 v3, .int .i64 v4, .int .i64 v5, .int .i64 v6, .int .i64 v7, .int .i64 v8, .int .i64 v9, .int .i64 v10, .int .i64 v11, .int .i64 v12, .int .i64 v13, .int .i64 v14]) hb; clear hb; have e0 := F1.1.cell 0 _ rfl; have e1 := F1.1.cell 1 _ rfl; have e2 := F1.1.cell 2 _ rfl; have e3 := F1.1.cell 3 _ rfl; have e4 := F1.1.cell 4 _ rfl; have e5 := F1.1.cell 5 _ rfl; have e6 := F1.1.cell 6 _ rfl; have e7 := F1.1.cell 7 _ rfl; have e8 := F1.1.cell 8 _ rfl; have e9 := F1.1.cell 9 _ rfl; have e10 := F1.1.cell 10 _ rfl; have e11 := F1.1.cell 11 _ rfl; have e12 := F1.1.cell 12 _ rfl; have e13 := F1.1.cell 13 _ rfl; have e14 := F1.1.cell 14 _ rfl)
    | go_in)
  go_ret2
  exact ⟨rfl, F1.2⟩
set_option maxRecDepth 100000 in
set_option maxHeartbeats 1000000 in
theorem fput_low (v0 v1 v2 v3 v4 v5 v6 v7 v8 v9 v10 v11 v12 v13 v14 : Int) (w : World) (hI : isB v0 v1 v2 v3 v4 v5 v6 v7 v8 v9 v10 = true) (n1 : ¬ v11 < 0) (n2 : ¬ 100 ≤ v11) (n3 : (v12 == 0 && (v13 == 0)) = true) (n4 : v14 < 1) :
    Calls Try.prog 28 #[.agg #[.int .i64 v0, .int .i64 v1, .int .i64 v2, .int .i64 v3, .int .i64 v4, .int .i64 v5, .int .i64 v6, .int .i64 v7, .int .i64 v8, .int .i64 v9, .int .i64 v10, .int .i64 v11, .int .i64 v12, .int .i64 v13, .int .i64 v14]] w fun e w' => e = .returned (.tuple #[.slice none 0 0, .int .i64 1]) ∧ Below w.heap.size w w' := by
  go_enter Try.func28, Try.ntmps28
  go_wp2_with (first
    | (go_at_call 35; refine (is_any _ _ _ _ _ _ _ _ _ _ _ _).mono ?_; rintro e w1 ⟨rfl, hb⟩; rw [hI]; have F1 := box_one (c1 := #[.int .i64 v0, .int .i64 v1, .int .i64 v2, .int .i64 v3, .int .i64 v4, .int .i64 v5, .int .i64 v6, .int .i64 v7, .int .i64 v8, .int .i64 v9, .int .i64 v10, .int .i64 v11, .int .i64 v12, .int .i64 v13, .int .i64 v14]) hb; clear hb; have e0 := F1.1.cell 0 _ rfl; have e1 := F1.1.cell 1 _ rfl; have e2 := F1.1.cell 2 _ rfl; have e3 := F1.1.cell 3 _ rfl; have e4 := F1.1.cell 4 _ rfl; have e5 := F1.1.cell 5 _ rfl; have e6 := F1.1.cell 6 _ rfl; have e7 := F1.1.cell 7 _ rfl; have e8 := F1.1.cell 8 _ rfl; have e9 := F1.1.cell 9 _ rfl; have e10 := F1.1.cell 10 _ rfl; have e11 := F1.1.cell 11 _ rfl; have e12 := F1.1.cell 12 _ rfl; have e13 := F1.1.cell 13 _ rfl; have e14 := F1.1.cell 14 _ rfl)
    | go_in)
  go_ret2
  exact ⟨rfl, F1.2⟩
set_option maxRecDepth 100000 in
set_option maxHeartbeats 1000000 in
theorem fput_top (v0 v1 v2 v3 v4 v5 v6 v7 v8 v9 v10 v11 v12 v13 v14 : Int) (w : World) (hI : isB v0 v1 v2 v3 v4 v5 v6 v7 v8 v9 v10 = true) (n1 : ¬ v11 < 0) (n2 : ¬ 100 ≤ v11) (n3 : (v12 == 0 && (v13 == 0)) = true) (n4 : ¬ v14 < 1) (n5 : 3 < v14) :
    Calls Try.prog 28 #[.agg #[.int .i64 v0, .int .i64 v1, .int .i64 v2, .int .i64 v3, .int .i64 v4, .int .i64 v5, .int .i64 v6, .int .i64 v7, .int .i64 v8, .int .i64 v9, .int .i64 v10, .int .i64 v11, .int .i64 v12, .int .i64 v13, .int .i64 v14]] w fun e w' => e = .returned (.tuple #[.slice none 0 0, .int .i64 1]) ∧ Below w.heap.size w w' := by
  go_enter Try.func28, Try.ntmps28
  go_wp2_with (first
    | (go_at_call 35; refine (is_any _ _ _ _ _ _ _ _ _ _ _ _).mono ?_; rintro e w1 ⟨rfl, hb⟩; rw [hI]; have F1 := box_one (c1 := #[.int .i64 v0, .int .i64 v1, .int .i64 v2, .int .i64 v3, .int .i64 v4, .int .i64 v5, .int .i64 v6, .int .i64 v7, .int .i64 v8, .int .i64 v9, .int .i64 v10, .int .i64 v11, .int .i64 v12, .int .i64 v13, .int .i64 v14]) hb; clear hb; have e0 := F1.1.cell 0 _ rfl; have e1 := F1.1.cell 1 _ rfl; have e2 := F1.1.cell 2 _ rfl; have e3 := F1.1.cell 3 _ rfl; have e4 := F1.1.cell 4 _ rfl; have e5 := F1.1.cell 5 _ rfl; have e6 := F1.1.cell 6 _ rfl; have e7 := F1.1.cell 7 _ rfl; have e8 := F1.1.cell 8 _ rfl; have e9 := F1.1.cell 9 _ rfl; have e10 := F1.1.cell 10 _ rfl; have e11 := F1.1.cell 11 _ rfl; have e12 := F1.1.cell 12 _ rfl; have e13 := F1.1.cell 13 _ rfl; have e14 := F1.1.cell 14 _ rfl)
    | go_in)
  go_ret2
  exact ⟨rfl, F1.2⟩
end Go.Proofs.Ytekgienbhpknlaa.G
end
section
namespace Go.Proofs.Ytekgienbhpknlaa.G
open Go Go.RowKit Go.ChangeShapes Go.WideShapes Go.Proofs.Ytekgienbhpknlaa.PL Go.Proofs.YtekgienbhpknlaaW.PrintWords
def FieldOk (f : S40) : Prop := (Lit.int .i64 f.f0).wf = true ∧ f.f1.length ≤ maxLen ∧ ∀ x ∈ f.f1, (Lit.int .u8 x).wf = true
theorem row_of {α : Type} [Inhabited α] {P : Nat → α → Prop} (n : Nat) (h : ∀ i, i < n → ∃ x, P i x) : ∃ l : List α, l.length = n ∧ ∀ i x, l[i]? = some x → P i x := by
  induction n with
  | zero => exact ⟨[], rfl, fun i x hx => by simp at hx⟩
  | succ n ih =>
    obtain ⟨l, hl, hp⟩ := ih (fun i hi => h i (by omega))
    obtain ⟨x, hx⟩ := h n (by omega)
    refine ⟨l ++ [x], by simp [hl], fun i y hy => ?_⟩
    by_cases hi : i < n
    · exact hp i y (by rw [← hy, List.getElem?_append_left (by omega)])
    · have hlt := (List.getElem?_eq_some_iff.1 hy).1
      simp at hlt
      have : i = n := by omega
      subst this
      rw [List.getElem?_append_right (by omega), hl] at hy
      simp at hy
      exact hy ▸ hx
instance : Inhabited S40 := ⟨z40⟩
section
variable {H : Type} {enc : TypeId × Value → H} {w : World} {base : Nat} {spare : Nat → Bool} {held : Bool}
theorem open_field {fuel : Nat} {cs : List Value} {x : DataW H × List MemPlace} (h : DataW.trod enc Try.prog w base spare held fuel 40 cs = some x) :
    ∃ f : S40, k40.K w f cs ∧ FieldOk f := by
  obtain ⟨xs, n, _, _, hlen, hx, hf⟩ := DataW.trod_struct Try.underlying40 h
  have hc2 : Try.prog.cellsOf 40 = 2 := by kernel_rfl
  rw [hc2] at hlen
  have f0 : DataW.trod enc Try.prog w base spare held n 3 ((cs.drop 0).take (Try.prog.cellsOf 3)) = xs[0]? := hf 0 _ rfl
  have f1 : DataW.trod enc Try.prog w base spare held n 24 ((cs.drop 1).take (Try.prog.cellsOf 24)) = xs[1]? := hf 1 _ rfl
  have c0 : Try.prog.cellsOf 3 = 1 := by kernel_rfl
  have c1 : Try.prog.cellsOf 24 = 1 := by kernel_rfl
  rw [c0, List.drop_zero] at f0
  rw [c1] at f1
  have hx2 : xs.length = 2 := hx
  rw [List.getElem?_eq_getElem (show 0 < xs.length by omega)] at f0
  rw [List.getElem?_eq_getElem (show 1 < xs.length by omega)] at f1
  obtain ⟨m, hm, _, hw⟩ := DataW.trod_int Try.underlying3 f0
  match cs, hlen with
  | [u, v], _ =>
    simp only [List.take_succ_cons, List.take_zero, List.drop_succ_cons, List.drop_zero, List.cons.injEq, and_true] at hm f1
    subst hm
    rcases open_ints Try.underlying24 Try.underlying5 (by kernel_rfl) f1 with ⟨hcs, _⟩ | ⟨a, l, c, zs, hcs, _, hl, hmx, hz, _, hcell, hwz⟩
    · simp only [List.cons.injEq, and_true] at hcs
      subst hcs
      exact ⟨⟨m, []⟩, k40_mk w ⟨m, []⟩ (Nat.le_refl _) (Kd.C_nil _ _), hw, by simp, fun x hx => by cases hx⟩
    · simp only [List.cons.injEq, and_true] at hcs
      subst hcs
      have hzl : l ≤ zs.length := by rw [hz]; split <;> omega
      have hll : (zs.take l).length = l := by rw [List.length_take]; omega
      refine ⟨⟨m, zs.take l⟩, ?_, hw, by show (zs.take l).length ≤ _; omega, fun x hx => hwz x (List.mem_of_mem_take hx)⟩
      have hC : Kd.C (Kd.int .u8) w (some a) (zs.take l).length (zs.take l) := Kd.C_of_reads (d := (0 : Int)) (h1 := fun _ => rfl) (by
        refine ⟨rfl, by rw [hll]; unfold maxLen at hmx; omega, ?_⟩
        intro _
        exact ⟨a, rfl, fun i hi => by
          have hi2 : i < l := by rw [hll] at hi; exact hi
          rw [hcell i (by omega)]
          simp [List.getD_eq_getElem?_getD, hi2]⟩)
      have := k40_mk w ⟨m, zs.take l⟩ (A1 := some a) (c1 := c) (by show (zs.take l).length ≤ c; omega) hC
      rw [show (⟨m, zs.take l⟩ : S40).f1.length = l from hll] at this
      exact this
theorem open_fields {fuel : Nat} {A : Option Addr} {len cap : Nat} {x : DataW H × List MemPlace} (h : DataW.trod enc Try.prog w base spare held fuel 22 (Value.slice A len cap).cells.toList = some x) :
    ∃ l : List S40, len = l.length ∧ len ≤ cap ∧ len ≤ maxLen ∧ Kd.C k40 w A len l ∧ ∀ f ∈ l, FieldOk f := by
  rcases DataW.trod_slice Try.underlying22 h with ⟨hcs, _⟩ | ⟨a, len', cap', elems, rest, n, _, hcs, _, _, hl, hm, hlen, hel, _, _⟩
  · simp [Value.cells] at hcs
    obtain ⟨rfl, rfl, rfl⟩ := hcs
    exact ⟨[], rfl, Nat.le_refl _, by simp, Kd.C_nil _ _, fun f hf => by cases hf⟩
  · simp [Value.cells] at hcs
    obtain ⟨rfl, rfl, rfl⟩ := hcs
    have hc2 : Try.prog.cellsOf 40 = 2 := by kernel_rfl
    rw [hc2] at hel
    have each : ∀ i, i < len → ∃ f : S40, FieldOk f ∧ ∃ cs : List Value, k40.K w f cs ∧ cs.length = 2 ∧ ∀ j u, cs[j]? = some u → w.cell? (a.add (i * 2 + j)) = some u := by
      intro i hi
      have e := hel i hi
      rw [List.getElem?_eq_getElem (show i < elems.length by omega), Option.bind_eq_some_iff] at e
      obtain ⟨cs, h1, h2⟩ := e
      obtain ⟨f, hk, ho⟩ := open_field h2
      have hs := World.cells?_some h1
      have h2l : cs.length = 2 := hs.2.1
      refine ⟨f, ho, cs, hk, h2l, fun j u hu => ?_⟩
      have hj : j < cs.length := (List.getElem?_eq_some_iff.1 hu).1
      have hcell := hs.2.2 j (by omega)
      rw [show (a.add (i * 2)).add j = a.add (i * 2 + j) from Addr.add_add _ _ _] at hcell
      rw [hcell, hu]
    obtain ⟨l, h1, h2⟩ := row_of len each
    refine ⟨l, h1.symm, hl, by omega, ⟨h1, by unfold maxLen at hm; omega, fun _ => ⟨a, rfl, fun j p hp => ?_⟩⟩, fun f hf => ?_⟩
    · obtain ⟨_, cs, hk, hl2, hc⟩ := h2 j p hp
      exact ⟨cs, hl2, hk, hc⟩
    · obtain ⟨i, hi⟩ := List.getElem?_of_mem hf
      exact (h2 i f hi).1
end
end Go.Proofs.Ytekgienbhpknlaa.G
end
section
namespace Go.Proofs.Ytekgienbhpknlaa.PL
open Go.RowKit Go.Proofs.YtekgienbhpknlaaW.PrintWords Go.Proofs.YtekgienbhpknlaaW.PrintLast Go.Proofs.YtekgienbhpknlaaW.PrintMore
attribute [local go_sem] max2_int min2_int max_two min_two max_three min_three max_four min_four   -- for this text's walks alone
set_option linter.unusedVariables false
set_option linter.unusedSimpArgs false

/-! ### gatelineref17_Same: function 23 -/
def gatelineref17_Same.l0 : Nat → List (S40) → List (S40) → Int → Option (Bool)
  | 0, _, _, _ => none
  | k + 1, x0, x1, x5 => if x5 < (x0.length : Int) then (if 0 ≤ x5 then (if x5 < (x1.length : Int) then (if ((rd_T40 x0 x5).f0) = ((rd_T40 x1 x5).f0) then ((gatelineref01_Same.f k ((rd_T40 x0 x5).f1) ((rd_T40 x1 x5).f1)).bind fun t121 => (if t121 = true then (gatelineref17_Same.l0 k x0 x1 (wrap64 (x5 + 1))) else (some false))) else (some false)) else (none)) else (none)) else (some true)
def gatelineref17_Same.f (k : Nat) (l0 : List (S40)) (l1 : List (S40)) : Option (Bool) := if (l0.length : Int) = (l1.length : Int) then (gatelineref17_Same.l0 k l0 l1 0) else (some false)
theorem gatelineref17_Same.mono_l : ∀ k, (∀ y0 y1 y2, LeO (gatelineref17_Same.l0 k y0 y1 y2) (gatelineref17_Same.l0 (k + 1) y0 y1 y2))
  | 0 => fun _ _ _ r h => by simp [gatelineref17_Same.l0] at h
  | k + 1 => by
    have ih0 := gatelineref17_Same.mono_l k
    · intro y0 y1 y2
      unfold gatelineref17_Same.l0
      repeat' first
      | (with_reducible exact ih0 _ _ _)
      | (with_reducible exact gatelineref01_Same.mono _ _ _)
      | (with_reducible exact LeO.refl _)
      | (with_reducible exact LeO.none _)
      | (with_reducible refine LeO.ite ?_ ?_)
      | (with_reducible refine LeO.bind ?_ (fun _ => ?_))
      | exact ih0 _ _ _
      | exact gatelineref01_Same.mono _ _ _
      | exact LeO.none _
      | refine LeO.ite ?_ ?_
      | refine LeO.bind ?_ (fun _ => ?_)
theorem gatelineref17_Same.mono : ∀ a0 a1 k, LeO (gatelineref17_Same.f k a0 a1) (gatelineref17_Same.f (k + 1) a0 a1) := by
  intro a0 a1 k
  have ih0 := gatelineref17_Same.mono_l k
  unfold gatelineref17_Same.f
  repeat' first
      | (with_reducible exact ih0 _ _ _)
      | (with_reducible exact gatelineref01_Same.mono _ _ _)
      | (with_reducible exact LeO.refl _)
      | (with_reducible exact LeO.none _)
      | (with_reducible refine LeO.ite ?_ ?_)
      | (with_reducible refine LeO.bind ?_ (fun _ => ?_))
      | exact ih0 _ _ _
      | exact gatelineref01_Same.mono _ _ _
      | exact LeO.none _
      | refine LeO.ite ?_ ?_
      | refine LeO.bind ?_ (fun _ => ?_)
set_option maxHeartbeats 8000000 in
set_option maxRecDepth 100000 in
theorem gatelineref17_Same.calls (k : Nat) (A0 : Option Addr) (c0 : Nat) (l0 : List (S40)) (A1 : Option Addr) (c1 : Nat) (l1 : List (S40)) (r : Bool) (w : World) (hr0 : Kd.C k40 w A0 l0.length l0) (hc0 : l0.length ≤ c0) (hr1 : Kd.C k40 w A1 l1.length l1) (hc1 : l1.length ≤ c1) (h : gatelineref17_Same.f k l0 l1 = some r) :
    Calls Try.prog 23 #[.slice A0 l0.length c0, .slice A1 l1.length c1] w fun e w' => e = .returned (.bool r) ∧ Drawn0 w w' := by
  have HR0 := Aside0.mk hr0
  have HC0 := Aside0.mk hc0
  clear hr0 hc0
  have HR1 := Aside0.mk hr1
  have HC1 := Aside0.mk hc1
  clear hr1 hc1
  have H : (if (l0.length : Int) = (l1.length : Int) then (gatelineref17_Same.l0 k l0 l1 0) else (some false)) = some r := h
  clear h
  by_cases c3 : (l0.length : Int) = (l1.length : Int)
  · rw [if_pos c3] at H
    have c3b0 : ((l0.length : Int) == (l1.length : Int)) = true := beq_iff_eq.mpr c3
    have c3b1 : ((l0.length : Int) != (l1.length : Int)) = false := bne_eq_false_iff_eq.mpr c3
    have c3b2 : (l0.length == l1.length) = true := by first | simpa using c3 | (simp at c3 ⊢; omega)
    clear c3
    have H' := Aside0.mk H
    clear H
    go_enter Try.func23, Try.ntmps23
    go_wp2
    repeat (go_quiet (fail); try go_wp2)
    go_loopg [5] k (fun kq v5 w' => ∃ (x5_1 : Int), v5 = .int .i64 x5_1 ∧ Aside0 (gatelineref17_Same.l0 kq l0 l1 x5_1 = some r) ∧ Aside0 (kq ≤ k) ∧ Drawn0 w w')
    case atStart => exact ⟨(0), (by first | rfl | (simp; done) | (simp [*]; done)), H', ⟨Nat.le_refl _⟩, by repeat (first | exact Drawn0.refl _ | apply Drawn0.step)⟩
    case round =>
      clear H'
      try clear c1
      try clear c2
      try clear p2
      try clear c3
      try clear c3b0
      try clear c3b1
      try clear c3b2
      obtain ⟨x5_1, rfl, HA, HK1, ⟨m1, rfl⟩⟩ := hrel
      cases gk with
      | zero => exact absurd HA.out (by simp [gatelineref17_Same.l0])
      | succ k1 =>
        have H := HA.out
        clear HA
        simp only [gatelineref17_Same.l0] at H
        by_cases c4 : x5_1 < (l0.length : Int)
        · rw [if_pos c4] at H
          have c4b0 : decide (x5_1 < (l0.length : Int)) = true := decide_eq_true c4
          clear c4
          by_cases c5 : 0 ≤ x5_1
          · rw [if_pos c5] at H
            have c5b0 : decide (0 ≤ x5_1) = true := decide_eq_true c5
            clear c5
            by_cases c6 : x5_1 < (l1.length : Int)
            · rw [if_pos c6] at H
              have c6b0 : decide (x5_1 < (l1.length : Int)) = true := decide_eq_true c6
              clear c6
              by_cases c7 : ((rd_T40 l0 x5_1).f0) = ((rd_T40 l1 x5_1).f0)
              · rw [if_pos c7] at H
                have c7b0 : (((rd_T40 l0 x5_1).f0) == ((rd_T40 l1 x5_1).f0)) = true := beq_iff_eq.mpr c7
                have c7b1 : (((rd_T40 l0 x5_1).f0) != ((rd_T40 l1 x5_1).f0)) = false := bne_eq_false_iff_eq.mpr c7
                clear c7
                replace H := Option.bind_eq_some_iff.mp H
                obtain ⟨t121, A80, H⟩ := H
                replace H : (if t121 = true then (gatelineref17_Same.l0 k1 l0 l1 (wrap64 (x5_1 + 1))) else (some false)) = some r := H
                have A8 := Aside0.mk A80
                clear A80
                by_cases c9 : t121 = true
                · subst c9
                  have H1 : (gatelineref17_Same.l0 k1 l0 l1 (wrap64 (x5_1 + 1))) = some r := by rw [if_pos rfl] at H; exact H
                  clear H
                  have H := H1
                  clear H1
                  have H' := Aside0.mk H
                  clear H
                  have p117 : 0 ≤ (x5_1 : Int) := of_decide_eq_true (by first | (with_reducible assumption) | assumption)
                  have q117 : x5_1 < (l0.length : Int) := of_decide_eq_true (by first | (with_reducible assumption) | assumption)
                  obtain ⟨ad117, A117_1, c117_1, e117, hx117_0, hx117_1, hl117_1, hi117_1⟩ := at_T40 HR0.out x5_1 p117 q117
                  cases e117
                  have HR117_1 := Aside0.mk hi117_1
                  have HC117_1 := Aside0.mk hl117_1
                  clear hi117_1 hl117_1
                  replace p117 := eq_true p117
                  replace q117 := eq_true q117
                  have p118 : 0 ≤ (x5_1 : Int) := of_decide_eq_true (by first | (with_reducible assumption) | assumption)
                  have q118 : x5_1 < (l1.length : Int) := of_decide_eq_true (by first | (with_reducible assumption) | assumption)
                  obtain ⟨ad118, A118_1, c118_1, e118, hx118_0, hx118_1, hl118_1, hi118_1⟩ := at_T40 HR1.out x5_1 p118 q118
                  cases e118
                  have HR118_1 := Aside0.mk hi118_1
                  have HC118_1 := Aside0.mk hl118_1
                  clear hi118_1 hl118_1
                  replace p118 := eq_true p118
                  replace q118 := eq_true q118
                  have p119 : 0 ≤ (x5_1 : Int) := of_decide_eq_true (by first | (with_reducible assumption) | assumption)
                  have q119 : x5_1 < (l0.length : Int) := of_decide_eq_true (by first | (with_reducible assumption) | assumption)
                  obtain ⟨ad119, A119_1, c119_1, e119, hx119_0, hx119_1, hl119_1, hi119_1⟩ := at_T40 HR0.out x5_1 p119 q119
                  obtain rfl : ad117 = ad119 := (by injection e119)
                  have HR119_1 := Aside0.mk hi119_1
                  have HC119_1 := Aside0.mk hl119_1
                  clear hi119_1 hl119_1
                  replace p119 := eq_true p119
                  replace q119 := eq_true q119
                  have ea_ := Option.some.inj (hx117_1.symm.trans hx119_1)
                  injection ea_ with ea_ en_ ec_
                  subst ea_
                  subst ec_
                  clear en_
                  have p120 : 0 ≤ (x5_1 : Int) := of_decide_eq_true (by first | (with_reducible assumption) | assumption)
                  have q120 : x5_1 < (l1.length : Int) := of_decide_eq_true (by first | (with_reducible assumption) | assumption)
                  obtain ⟨ad120, A120_1, c120_1, e120, hx120_0, hx120_1, hl120_1, hi120_1⟩ := at_T40 HR1.out x5_1 p120 q120
                  obtain rfl : ad118 = ad120 := (by injection e120)
                  have HR120_1 := Aside0.mk hi120_1
                  have HC120_1 := Aside0.mk hl120_1
                  clear hi120_1 hl120_1
                  replace p120 := eq_true p120
                  replace q120 := eq_true q120
                  have ea_ := Option.some.inj (hx118_1.symm.trans hx120_1)
                  injection ea_ with ea_ en_ ec_
                  subst ea_
                  subst ec_
                  clear en_
                  go_wp2_with (first | (go_at_call 18; (with_reducible refine (gatelineref01_Same.calls k1 _ _ ((rd_T40 l0 x5_1).f1) _ _ ((rd_T40 l1 x5_1).f1) true _ ?side1 ?side2 ?side3 ?side4 A8.out).mono ?_); (case side1 => repeat (first | exact HR119_1.out | (with_reducible refine Kd.C_alloc ?_ _) | (with_reducible refine Kd.C_drewN ?_ _) | (with_reducible refine Kd.C_drew ?_))); (case side2 => exact HC119_1.out); (case side3 => repeat (first | exact HR120_1.out | (with_reducible refine Kd.C_alloc ?_ _) | (with_reducible refine Kd.C_drewN ?_ _) | (with_reducible refine Kd.C_drew ?_))); (case side4 => exact HC120_1.out); rintro e w' ⟨rfl, ⟨nd, rfl⟩⟩; (try first | exact ⟨rfl, _, World.drewN_drewN _ _ _⟩ | exact ⟨rfl, _, Eq.trans (World.drewN_drewN _ _ _) (congrArg (World.drewN _) (Nat.add_assoc _ _ _))⟩); (try clear A8)))
                  repeat (go_quiet (first | (go_at_call 18; (with_reducible refine (gatelineref01_Same.calls k1 _ _ ((rd_T40 l0 x5_1).f1) _ _ ((rd_T40 l1 x5_1).f1) true _ ?side1 ?side2 ?side3 ?side4 A8.out).mono ?_); (case side1 => repeat (first | exact HR119_1.out | (with_reducible refine Kd.C_alloc ?_ _) | (with_reducible refine Kd.C_drewN ?_ _) | (with_reducible refine Kd.C_drew ?_))); (case side2 => exact HC119_1.out); (case side3 => repeat (first | exact HR120_1.out | (with_reducible refine Kd.C_alloc ?_ _) | (with_reducible refine Kd.C_drewN ?_ _) | (with_reducible refine Kd.C_drew ?_))); (case side4 => exact HC120_1.out); rintro e w' ⟨rfl, ⟨nd, rfl⟩⟩; (try first | exact ⟨rfl, _, World.drewN_drewN _ _ _⟩ | exact ⟨rfl, _, Eq.trans (World.drewN_drewN _ _ _) (congrArg (World.drewN _) (Nat.add_assoc _ _ _))⟩); (try clear A8))); try go_wp2_with (first | (go_at_call 18; (with_reducible refine (gatelineref01_Same.calls k1 _ _ ((rd_T40 l0 x5_1).f1) _ _ ((rd_T40 l1 x5_1).f1) true _ ?side1 ?side2 ?side3 ?side4 A8.out).mono ?_); (case side1 => repeat (first | exact HR119_1.out | (with_reducible refine Kd.C_alloc ?_ _) | (with_reducible refine Kd.C_drewN ?_ _) | (with_reducible refine Kd.C_drew ?_))); (case side2 => exact HC119_1.out); (case side3 => repeat (first | exact HR120_1.out | (with_reducible refine Kd.C_alloc ?_ _) | (with_reducible refine Kd.C_drewN ?_ _) | (with_reducible refine Kd.C_drew ?_))); (case side4 => exact HC120_1.out); rintro e w' ⟨rfl, ⟨nd, rfl⟩⟩; (try first | exact ⟨rfl, _, World.drewN_drewN _ _ _⟩ | exact ⟨rfl, _, Eq.trans (World.drewN_drewN _ _ _) (congrArg (World.drewN _) (Nat.add_assoc _ _ _))⟩); (try clear A8))))
                  go_roundg k1
                  case measure => have := HK1.out; omega
                  case rel => exact ⟨(wrap64 (x5_1 + 1)), (by first | rfl | (simp; done) | (simp [*]; done)), H', ⟨by have := HK1.out; omega⟩, by repeat (first | exact Drawn0.refl _ | apply Drawn0.step)⟩
                · replace c9 := Bool.eq_false_iff.mpr c9
                  subst c9
                  have H1 : (some false) = some r := by rw [if_neg (show ¬ (false = true) by decide)] at H; exact H
                  clear H
                  have H := H1
                  clear H1
                  obtain rfl := Option.some.inj H
                  have p117 : 0 ≤ (x5_1 : Int) := of_decide_eq_true (by first | (with_reducible assumption) | assumption)
                  have q117 : x5_1 < (l0.length : Int) := of_decide_eq_true (by first | (with_reducible assumption) | assumption)
                  obtain ⟨ad117, A117_1, c117_1, e117, hx117_0, hx117_1, hl117_1, hi117_1⟩ := at_T40 HR0.out x5_1 p117 q117
                  cases e117
                  have HR117_1 := Aside0.mk hi117_1
                  have HC117_1 := Aside0.mk hl117_1
                  clear hi117_1 hl117_1
                  replace p117 := eq_true p117
                  replace q117 := eq_true q117
                  have p118 : 0 ≤ (x5_1 : Int) := of_decide_eq_true (by first | (with_reducible assumption) | assumption)
                  have q118 : x5_1 < (l1.length : Int) := of_decide_eq_true (by first | (with_reducible assumption) | assumption)
                  obtain ⟨ad118, A118_1, c118_1, e118, hx118_0, hx118_1, hl118_1, hi118_1⟩ := at_T40 HR1.out x5_1 p118 q118
                  cases e118
                  have HR118_1 := Aside0.mk hi118_1
                  have HC118_1 := Aside0.mk hl118_1
                  clear hi118_1 hl118_1
                  replace p118 := eq_true p118
                  replace q118 := eq_true q118
                  have p119 : 0 ≤ (x5_1 : Int) := of_decide_eq_true (by first | (with_reducible assumption) | assumption)
                  have q119 : x5_1 < (l0.length : Int) := of_decide_eq_true (by first | (with_reducible assumption) | assumption)
                  obtain ⟨ad119, A119_1, c119_1, e119, hx119_0, hx119_1, hl119_1, hi119_1⟩ := at_T40 HR0.out x5_1 p119 q119
                  obtain rfl : ad117 = ad119 := (by injection e119)
                  have HR119_1 := Aside0.mk hi119_1
                  have HC119_1 := Aside0.mk hl119_1
                  clear hi119_1 hl119_1
                  replace p119 := eq_true p119
                  replace q119 := eq_true q119
                  have ea_ := Option.some.inj (hx117_1.symm.trans hx119_1)
                  injection ea_ with ea_ en_ ec_
                  subst ea_
                  subst ec_
                  clear en_
                  have p120 : 0 ≤ (x5_1 : Int) := of_decide_eq_true (by first | (with_reducible assumption) | assumption)
                  have q120 : x5_1 < (l1.length : Int) := of_decide_eq_true (by first | (with_reducible assumption) | assumption)
                  obtain ⟨ad120, A120_1, c120_1, e120, hx120_0, hx120_1, hl120_1, hi120_1⟩ := at_T40 HR1.out x5_1 p120 q120
                  obtain rfl : ad118 = ad120 := (by injection e120)
                  have HR120_1 := Aside0.mk hi120_1
                  have HC120_1 := Aside0.mk hl120_1
                  clear hi120_1 hl120_1
                  replace p120 := eq_true p120
                  replace q120 := eq_true q120
                  have ea_ := Option.some.inj (hx118_1.symm.trans hx120_1)
                  injection ea_ with ea_ en_ ec_
                  subst ea_
                  subst ec_
                  clear en_
                  go_wp2_with (first | (go_at_call 18; (with_reducible refine (gatelineref01_Same.calls k1 _ _ ((rd_T40 l0 x5_1).f1) _ _ ((rd_T40 l1 x5_1).f1) false _ ?side1 ?side2 ?side3 ?side4 A8.out).mono ?_); (case side1 => repeat (first | exact HR119_1.out | (with_reducible refine Kd.C_alloc ?_ _) | (with_reducible refine Kd.C_drewN ?_ _) | (with_reducible refine Kd.C_drew ?_))); (case side2 => exact HC119_1.out); (case side3 => repeat (first | exact HR120_1.out | (with_reducible refine Kd.C_alloc ?_ _) | (with_reducible refine Kd.C_drewN ?_ _) | (with_reducible refine Kd.C_drew ?_))); (case side4 => exact HC120_1.out); rintro e w' ⟨rfl, ⟨nd, rfl⟩⟩; (try first | exact ⟨rfl, _, World.drewN_drewN _ _ _⟩ | exact ⟨rfl, _, Eq.trans (World.drewN_drewN _ _ _) (congrArg (World.drewN _) (Nat.add_assoc _ _ _))⟩); (try clear A8)))
                  repeat (go_quiet (first | (go_at_call 18; (with_reducible refine (gatelineref01_Same.calls k1 _ _ ((rd_T40 l0 x5_1).f1) _ _ ((rd_T40 l1 x5_1).f1) false _ ?side1 ?side2 ?side3 ?side4 A8.out).mono ?_); (case side1 => repeat (first | exact HR119_1.out | (with_reducible refine Kd.C_alloc ?_ _) | (with_reducible refine Kd.C_drewN ?_ _) | (with_reducible refine Kd.C_drew ?_))); (case side2 => exact HC119_1.out); (case side3 => repeat (first | exact HR120_1.out | (with_reducible refine Kd.C_alloc ?_ _) | (with_reducible refine Kd.C_drewN ?_ _) | (with_reducible refine Kd.C_drew ?_))); (case side4 => exact HC120_1.out); rintro e w' ⟨rfl, ⟨nd, rfl⟩⟩; (try first | exact ⟨rfl, _, World.drewN_drewN _ _ _⟩ | exact ⟨rfl, _, Eq.trans (World.drewN_drewN _ _ _) (congrArg (World.drewN _) (Nat.add_assoc _ _ _))⟩); (try clear A8))); try go_wp2_with (first | (go_at_call 18; (with_reducible refine (gatelineref01_Same.calls k1 _ _ ((rd_T40 l0 x5_1).f1) _ _ ((rd_T40 l1 x5_1).f1) false _ ?side1 ?side2 ?side3 ?side4 A8.out).mono ?_); (case side1 => repeat (first | exact HR119_1.out | (with_reducible refine Kd.C_alloc ?_ _) | (with_reducible refine Kd.C_drewN ?_ _) | (with_reducible refine Kd.C_drew ?_))); (case side2 => exact HC119_1.out); (case side3 => repeat (first | exact HR120_1.out | (with_reducible refine Kd.C_alloc ?_ _) | (with_reducible refine Kd.C_drewN ?_ _) | (with_reducible refine Kd.C_drew ?_))); (case side4 => exact HC120_1.out); rintro e w' ⟨rfl, ⟨nd, rfl⟩⟩; (try first | exact ⟨rfl, _, World.drewN_drewN _ _ _⟩ | exact ⟨rfl, _, Eq.trans (World.drewN_drewN _ _ _) (congrArg (World.drewN _) (Nat.add_assoc _ _ _))⟩); (try clear A8))))
                  go_ret
                  exact ⟨by first | rfl | (simp; done) | (simp [*]; done), by repeat (first | exact Drawn0.refl _ | apply Drawn0.step)⟩
              · rw [if_neg c7] at H
                have c7b0 : (((rd_T40 l0 x5_1).f0) == ((rd_T40 l1 x5_1).f0)) = false := beq_eq_false_iff_ne.mpr c7
                have c7b1 : (((rd_T40 l0 x5_1).f0) != ((rd_T40 l1 x5_1).f0)) = true := bne_iff_ne.mpr c7
                obtain rfl := Option.some.inj H
                have p117 : 0 ≤ (x5_1 : Int) := of_decide_eq_true (by first | (with_reducible assumption) | assumption)
                have q117 : x5_1 < (l0.length : Int) := of_decide_eq_true (by first | (with_reducible assumption) | assumption)
                obtain ⟨ad117, A117_1, c117_1, e117, hx117_0, hx117_1, hl117_1, hi117_1⟩ := at_T40 HR0.out x5_1 p117 q117
                cases e117
                have HR117_1 := Aside0.mk hi117_1
                have HC117_1 := Aside0.mk hl117_1
                clear hi117_1 hl117_1
                replace p117 := eq_true p117
                replace q117 := eq_true q117
                have p118 : 0 ≤ (x5_1 : Int) := of_decide_eq_true (by first | (with_reducible assumption) | assumption)
                have q118 : x5_1 < (l1.length : Int) := of_decide_eq_true (by first | (with_reducible assumption) | assumption)
                obtain ⟨ad118, A118_1, c118_1, e118, hx118_0, hx118_1, hl118_1, hi118_1⟩ := at_T40 HR1.out x5_1 p118 q118
                cases e118
                have HR118_1 := Aside0.mk hi118_1
                have HC118_1 := Aside0.mk hl118_1
                clear hi118_1 hl118_1
                replace p118 := eq_true p118
                replace q118 := eq_true q118
                go_wp2
                repeat (go_quiet (fail); try go_wp2)
                go_ret
                exact ⟨by first | rfl | (simp; done) | (simp [*]; done), by repeat (first | exact Drawn0.refl _ | apply Drawn0.step)⟩
            · rw [if_neg c6] at H
              exact absurd H (by simp)
          · rw [if_neg c5] at H
            exact absurd H (by simp)
        · rw [if_neg c4] at H
          have c4b0 : decide (x5_1 < (l0.length : Int)) = false := decide_eq_false c4
          clear c4
          obtain rfl := Option.some.inj H
          go_wp2
          repeat (go_quiet (fail); try go_wp2)
          go_ret
          exact ⟨by first | rfl | (simp; done) | (simp [*]; done), by repeat (first | exact Drawn0.refl _ | apply Drawn0.step)⟩
  · rw [if_neg c3] at H
    have c3b0 : ((l0.length : Int) == (l1.length : Int)) = false := beq_eq_false_iff_ne.mpr c3
    have c3b1 : ((l0.length : Int) != (l1.length : Int)) = true := bne_iff_ne.mpr c3
    have c3b2 : (l0.length == l1.length) = false := by first | simpa using c3 | (simp at c3 ⊢; omega)
    obtain rfl := Option.some.inj H
    go_enter Try.func23, Try.ntmps23
    go_wp2
    repeat (go_quiet (fail); try go_wp2)
    go_ret
    exact ⟨by first | rfl | (simp; done) | (simp [*]; done), by repeat (first | exact Drawn0.refl _ | apply Drawn0.step)⟩

end Go.Proofs.Ytekgienbhpknlaa.PL
end
