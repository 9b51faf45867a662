-- Written by the kit's print program with contracts that this session proved by hand given to it. Not trusted: Lean checks it.
import Derived.Test.YtknpmcaiflheaaaPLx0
import Derived.Test.YtknpmcaiflheaaaPLx1
namespace Go.Proofs.Ytknpmcaiflheaaa.PL
open Go.RowKit Go.Proofs.YtknpmcaiflheaaaW.PrintWords Go.Proofs.YtknpmcaiflheaaaW.PrintLast Go.Proofs.YtknpmcaiflheaaaW.PrintMore
attribute [local go_sem] max2_int min2_int max_two min_two max_three min_three max_four min_four   -- for this text's walks alone
set_option linter.unusedVariables false
set_option linter.unusedSimpArgs false

/-! ### bits_Bytes: function 15 -/
def bits_Bytes.l0 : Nat → List Int → List Int → Int → Int → Option (List Int)
  | 0, _, _, _, _ => none
  | k + 1, x3, x10, x11, x12 => if x12 < x11 then (if 0 ≤ x12 then (if x12 < (x10.length : Int) then ((some (([((rd x10 x12) / 16777216) % 256, ((rd x10 x12) / 65536) % 256, ((rd x10 x12) / 256) % 256, (rd x10 x12) % 256] : List Int) : List Int)).bind fun y118 => (if x3.length + y118.length < 140737488355328 then (bits_Bytes.l0 k (x3 ++ y118) x10 x11 (wrap64 (x12 + 1))) else (none))) else (none)) else (none)) else (some x3)
def bits_Bytes.f (k : Nat) (l0 : List Int) : Option (List Int) := if 0 ≤ (wrap64 (4 * (l0.length : Int))) then (if (wrap64 (4 * (l0.length : Int)) : Int).toNat ≤ 281474976710656 then (bits_Bytes.l0 k (([] : List Int)) l0 (l0.length : Int) 0) else (none)) else (none)
theorem bits_Bytes.mono_l : ∀ k, (∀ y0 y1 y2 y3, LeO (bits_Bytes.l0 k y0 y1 y2 y3) (bits_Bytes.l0 (k + 1) y0 y1 y2 y3))
  | 0 => fun _ _ _ _ r h => by simp [bits_Bytes.l0] at h
  | k + 1 => by
    have ih0 := bits_Bytes.mono_l k
    · intro y0 y1 y2 y3
      unfold bits_Bytes.l0
      repeat' first
      | (with_reducible exact ih0 _ _ _ _)
      | (with_reducible exact LeO.refl _)
      | (with_reducible exact LeO.none _)
      | (with_reducible refine LeO.ite ?_ ?_)
      | (with_reducible refine LeO.bind ?_ (fun _ => ?_))
      | exact ih0 _ _ _ _
      | exact LeO.none _
      | refine LeO.ite ?_ ?_
      | refine LeO.bind ?_ (fun _ => ?_)
theorem bits_Bytes.mono : ∀ a0 k, LeO (bits_Bytes.f k a0) (bits_Bytes.f (k + 1) a0) := by
  intro a0 k
  have ih0 := bits_Bytes.mono_l k
  unfold bits_Bytes.f
  repeat' first
      | (with_reducible exact ih0 _ _ _ _)
      | (with_reducible exact LeO.refl _)
      | (with_reducible exact LeO.none _)
      | (with_reducible refine LeO.ite ?_ ?_)
      | (with_reducible refine LeO.bind ?_ (fun _ => ?_))
      | exact ih0 _ _ _ _
      | exact LeO.none _
      | refine LeO.ite ?_ ?_
      | refine LeO.bind ?_ (fun _ => ?_)
set_option maxHeartbeats 8000000 in
set_option maxRecDepth 100000 in
theorem bits_Bytes.calls (k : Nat) (A0 : Option Addr) (c0 : Nat) (l0 : List Int) (r : List Int) (w : World) (hr0 : Kd.C (Kd.int .u32) w A0 l0.length l0) (hc0 : l0.length ≤ c0) (h : bits_Bytes.f k l0 = some r) :
    Calls Try.prog 15 #[.slice A0 l0.length c0] w fun e w' => ∃ v0_ : Value, e = .returned (v0_) ∧ Kd.R (Kd.int .u8) 5 w' w.heap.size (fun _ => True) v0_ r ∧ Below w.heap.size w w' := by
  have HR0 := Aside0.mk hr0
  have HC0 := Aside0.mk hc0
  clear hr0 hc0
  have HB := Aside0.mk (Below.refl w.heap.size w)
  have H : (if 0 ≤ (wrap64 (4 * (l0.length : Int))) then (if (wrap64 (4 * (l0.length : Int)) : Int).toNat ≤ 281474976710656 then (bits_Bytes.l0 k (([] : List Int)) l0 (l0.length : Int) 0) else (none)) else (none)) = some r := h
  clear h
  obtain ⟨ji2, hji2⟩ : ∃ j_ : Int, (wrap64 (4 * (l0.length : Int))) = j_ := ⟨_, rfl⟩
  replace H : (if 0 ≤ (ji2) then (if (ji2 : Int).toNat ≤ 281474976710656 then (bits_Bytes.l0 k (([] : List Int)) l0 (l0.length : Int) 0) else (none)) else (none)) = some r := by first | (rw [hji2] at H; exact H) | (simp only [hji2] at H ⊢; exact H)
  have hji2w : (IntKind.i64.wrap (4 * (l0.length : Int))) = ji2 := (i64_w _).trans hji2
  by_cases c3 : 0 ≤ (ji2)
  · rw [if_pos c3] at H
    have c3b0 := eq_true c3
    have c3b1 : decide (0 ≤ (ji2)) = true := decide_eq_true c3
    clear c3
    by_cases c4 : (ji2 : Int).toNat ≤ 281474976710656
    · rw [if_pos c4] at H
      have c4b0 := eq_true c4
      have c4b1 : decide ((ji2 : Int).toNat ≤ 281474976710656) = true := decide_eq_true c4
      clear c4
      obtain ⟨y114, hy114⟩ : ∃ y_ : List Int, y_ = (([] : List Int)) := ⟨_, rfl⟩
      replace H : (bits_Bytes.l0 k y114 l0 (l0.length : Int) 0) = some r := by first | (rw [hy114]; with_reducible exact H) | (have H2_ := (Option.bind_some _ _).symm.trans H; rw [hy114]; with_reducible exact H2_) | (have H2_ := (Option.bind_some _ _).symm.trans H; with_reducible exact H2_) | with_reducible exact H | (rw [hy114]; exact H) | exact H
      have Ny114 := Aside0.mk hy114
      clear hy114
      have H' := Aside0.mk H
      clear H
      go_enter Try.func15, Try.ntmps15
      go_wp2_with (first | ((with_reducible refine gate_dst (N := 9) rfl ?_); refine Kd.R_make0 (Kd.int .u8) _ 5 rfl (N := 9) rfl 26 _ _ rfl ji2 rfl rfl Try.underlying26 (.int .u8 0) 1 info5 rfl (by decide) (by omega) 0 (ok := fun _ => True) (okp := fun _ => True) rfl (fun _ hk => hk) trivial (of_decide_eq_true (by first | (with_reducible assumption) | assumption)) (Nat.le_trans (Nat.mul_le_mul_right _ (of_decide_eq_true (by first | (with_reducible assumption) | assumption) : ji2.toNat ≤ 281474976710656)) (by omega)) (Below.refl _ _) (Nat.le_refl _) ?_; intro v115 w5 ho6 hb hg_ hnew_; clear hg_ hnew_; (first | rw [← Ny114.out] at ho6 | (simp only [Int.reduceToNat] at ho6; rw [← Ny114.out] at ho6)); have n0_ := Aside0.mk (Kd.R_lower ho6 (below_size (by repeat (first | (with_reducible first | exact HB.out | apply below_alloc | apply pw_below_drewN | apply below_drew1) | exact HB.out)))); have n1_ := Aside0.mk (below_step (by repeat (first | (with_reducible first | exact HB.out | apply below_alloc | apply pw_below_drewN | apply below_drew1) | exact HB.out)) hb); clear HB; have HO116 := n0_; have HB := n1_; clear n0_ n1_; clear hb ho6))
      go_loopg [3, 12] k (fun kq v3 v12 w' => ∃ (x3_1 : List Int) (x12_1 : Int), v12 = .int .i64 x12_1 ∧ Aside0 (bits_Bytes.l0 kq x3_1 l0 (l0.length : Int) x12_1 = some r) ∧ Aside0 (kq ≤ k) ∧ Aside0 (Kd.R (Kd.int .u8) 5 w' w.heap.size (fun _ => True) v3 x3_1) ∧ Aside0 (Below w.heap.size w w'))
      case atStart => exact ⟨(y114), (0), (by first | rfl | (simp; done) | (simp [*]; done)), H', ⟨Nat.le_refl _⟩, ⟨by (with_reducible repeat (first | apply Kd.R_alloc | apply Kd.R_drewN | apply Kd.R_drew)); exact HO116.out⟩, ⟨by repeat (first | (with_reducible first | exact HB.out | apply below_alloc | apply pw_below_drewN | apply below_drew1) | exact HB.out)⟩⟩
      case round =>
        clear H'
        try clear c1
        try clear p2
        try clear c3
        try clear c3b0
        try clear c3b1
        try clear c4
        try clear c4b0
        try clear c4b1
        try clear p6
        obtain ⟨x3_1, x12_1, rfl, HA, HK1, HO_3, HB⟩ := hrel
        cases gk with
        | zero => exact absurd HA.out (by simp [bits_Bytes.l0])
        | succ k1 =>
          have H := HA.out
          clear HA
          simp only [bits_Bytes.l0] at H
          by_cases c7 : x12_1 < (l0.length : Int)
          · rw [if_pos c7] at H
            have c7b0 : decide (x12_1 < (l0.length : Int)) = true := decide_eq_true c7
            clear c7
            by_cases c8 : 0 ≤ x12_1
            · rw [if_pos c8] at H
              have c8b0 : decide (0 ≤ x12_1) = true := decide_eq_true c8
              clear c8
              by_cases c9 : x12_1 < (l0.length : Int)
              · rw [if_pos c9] at H
                have c9b0 : decide (x12_1 < (l0.length : Int)) = true := decide_eq_true c9
                clear c9
                obtain ⟨y118, hy118⟩ : ∃ y_ : List Int, y_ = (([((rd l0 x12_1) / 16777216) % 256, ((rd l0 x12_1) / 65536) % 256, ((rd l0 x12_1) / 256) % 256, (rd l0 x12_1) % 256] : List Int)) := ⟨_, rfl⟩
                replace H : (if x3_1.length + y118.length < 140737488355328 then (bits_Bytes.l0 k1 (x3_1 ++ y118) l0 (l0.length : Int) (wrap64 (x12_1 + 1))) else (none)) = some r := by first | (rw [hy118]; with_reducible exact H) | (have H2_ := (Option.bind_some _ _).symm.trans H; rw [hy118]; with_reducible exact H2_) | (have H2_ := (Option.bind_some _ _).symm.trans H; with_reducible exact H2_) | with_reducible exact H | (rw [hy118]; exact H) | exact H
                have Ny118 := Aside0.mk hy118
                clear hy118
                by_cases c10 : x3_1.length + y118.length < 140737488355328
                · rw [if_pos c10] at H
                  have LMc10 := Aside0.mk c10
                  clear c10
                  obtain ⟨y121, hy121⟩ : ∃ y_ : List Int, y_ = (x3_1 ++ y118) := ⟨_, rfl⟩
                  replace H : (bits_Bytes.l0 k1 y121 l0 (l0.length : Int) (wrap64 (x12_1 + 1))) = some r := by first | (rw [hy121]; with_reducible exact H) | (have H2_ := (Option.bind_some _ _).symm.trans H; rw [hy121]; with_reducible exact H2_) | (have H2_ := (Option.bind_some _ _).symm.trans H; with_reducible exact H2_) | with_reducible exact H | (rw [hy121]; exact H) | exact H
                  have Ny121 := Aside0.mk hy121
                  clear hy121
                  have H' := Aside0.mk H
                  clear H
                  have p117 : 0 ≤ (x12_1 : Int) := of_decide_eq_true (by first | (with_reducible assumption) | assumption)
                  have q117 : x12_1 < (l0.length : Int) := of_decide_eq_true (by first | (with_reducible assumption) | assumption)
                  obtain ⟨ad117, e117, hx117_0⟩ := Kd.at_int HR0.out x12_1 p117 q117
                  cases e117
                  replace hx117_0 := (HB.out.cell (World.block_lt_of_cell? w _ hx117_0)).trans hx117_0
                  replace p117 := eq_true p117
                  replace q117 := eq_true q117
                  go_wp2_with (first | ((with_reducible refine gate_dst (N := 28) rfl ?_); refine Kd.R_lit (Kd.int .u8) _ 5 ?hg (N := 28) ?hd (xs := ([((rd l0 x12_1) / 16777216) % 256, ((rd l0 x12_1) / 65536) % 256, ((rd l0 x12_1) / 256) % 256, (rd l0 x12_1) % 256] : List Int)) (inner := [.int .u8 (((rd l0 x12_1) / 16777216) % 256), .int .u8 (((rd l0 x12_1) / 65536) % 256), .int .u8 (((rd l0 x12_1) / 256) % 256), .int .u8 ((rd l0 x12_1) % 256)]) (ok := fun _ => True) (okp := fun _ => True) ?hr ?hp (fun _ hk => hk) trivial (Below.refl _ _) (Nat.le_refl _) (by simp) ?_; (case hd => rfl); (case hg => rfl); (case hr => first | (go_simp; done) | (go_simp; rfl) | (go_simp; simp [gm_u8, gm_u32, gm_tmod]; done)); (case hp => exact (Reps.one (show Kd.M (Kd.int .u8) _ _ _ (((rd l0 x12_1) / 16777216) % 256) [.int .u8 (((rd l0 x12_1) / 16777216) % 256)] from rfl) (Reps.one (show Kd.M (Kd.int .u8) _ _ _ (((rd l0 x12_1) / 65536) % 256) [.int .u8 (((rd l0 x12_1) / 65536) % 256)] from rfl) (Reps.one (show Kd.M (Kd.int .u8) _ _ _ (((rd l0 x12_1) / 256) % 256) [.int .u8 (((rd l0 x12_1) / 256) % 256)] from rfl) (Reps.one (show Kd.M (Kd.int .u8) _ _ _ ((rd l0 x12_1) % 256) [.int .u8 ((rd l0 x12_1) % 256)] from rfl) (Reps.none _ _)))))); intro v119 w11 ho12 hb hg_ hnew_; clear hg_ hnew_; (first | rw [← Ny118.out] at ho12 | (simp only [Int.reduceToNat] at ho12; rw [← Ny118.out] at ho12)); have n0_ := Aside0.mk (Kd.R_elder' (by (with_reducible repeat (first | apply Kd.R_alloc | apply Kd.R_drewN | apply Kd.R_drew)); exact HO_3.out) (Kd.R_base ho12) hb); have n1_ := Aside0.mk (Kd.R_lower (Kd.R_new' ho12 (Kd.R_lt (by (with_reducible repeat (first | apply Kd.R_alloc | apply Kd.R_drewN | apply Kd.R_drew)); exact HO_3.out))) (below_size (by repeat (first | (with_reducible first | exact HB.out | apply below_alloc | apply pw_below_drewN | apply below_drew1) | exact HB.out)))); have n2_ := Aside0.mk (below_step (by repeat (first | (with_reducible first | exact HB.out | apply below_alloc | apply pw_below_drewN | apply below_drew1) | exact HB.out)) hb); clear HO_3; clear HB; have HO_3 := n0_; have HO120 := n1_; have HB := n2_; clear n0_ n1_ n2_; clear hb ho12; obtain ⟨Ao14, co14, eo14⟩ := Kd.R_slice HO120.out; subst eo14) | ((with_reducible refine gate_builtin (b := .append) (xs := #[.tmp 16, .tmp 28]) rfl ?_); at_builtin; refine Kd.R_append_rows (Kd.int .u8) (w0 := w) w.heap.size rfl (.tmp 16) (.tmp 28) 26 5 (.int .u8 0) 1 rfl Try.underlying26 info5 rfl (by decide) (by omega) u3 x3_1 y118 _ _ _ (fun k_ => some k_ ≠ (.slice Ao14 y118.length co14 : Value).ownBlock) (fun _ => False) rfl rfl ?aO ?aR (fun _ _ h => h) (fun _ h => h.elim) ?aF ?aB ?aS ?aL ?_; (case aR => repeat (first | exact (Kd.R_reads' HO120.out).2.2 | (with_reducible refine Kd.C_alloc ?_ _) | (with_reducible refine Kd.C_drewN ?_ _) | (with_reducible refine Kd.C_drew ?_))); (case aB => exact (by repeat (first | (with_reducible first | exact HB.out | apply below_alloc | apply pw_below_drewN | apply below_drew1) | exact HB.out))); (case aF => exact (fun k_ hk => Kd.fresh' (Kd.R_lt (by (with_reducible repeat (first | apply Kd.R_alloc | apply Kd.R_drewN | apply Kd.R_drew)); exact HO120.out)) k_ hk)); (case aO => exact (by (with_reducible repeat (first | apply Kd.R_alloc | apply Kd.R_drewN | apply Kd.R_drew)); exact Kd.R_mono HO_3.out (fun _ hk => hk.2))); (case aS => exact (below_size (by repeat (first | (with_reducible first | exact HB.out | apply below_alloc | apply pw_below_drewN | apply below_drew1) | exact HB.out)))); (case aL => have := LMc10.out; omega); intro v122 w13 ho hb hg hat; rw [← Ny121.out] at ho; have n0_ := Aside0.mk (Kd.R_after (ok := (fun _ => True)) (by (with_reducible repeat (first | apply Kd.R_alloc | apply Kd.R_drewN | apply Kd.R_drew)); exact HO120.out) hg hat); have n1_ := Aside0.mk (hb); have n2_ := Aside0.mk (ho); clear HO120; clear HB; clear HO_3; have HO120 := n0_; have HB := n1_; have HO123 := n2_; clear n0_ n1_ n2_; clear ho hb hg hat))
                  go_roundg k1
                  case measure => have := HK1.out; omega
                  case rel => exact ⟨(y121), (wrap64 (x12_1 + 1)), (by first | rfl | (simp; done) | (simp [*]; done)), H', ⟨by have := HK1.out; omega⟩, ⟨by (with_reducible repeat (first | apply Kd.R_alloc | apply Kd.R_drewN | apply Kd.R_drew)); exact Kd.R_mono HO123.out (fun _ hk => trivial)⟩, ⟨by repeat (first | (with_reducible first | exact HB.out | apply below_alloc | apply pw_below_drewN | apply below_drew1) | exact HB.out)⟩⟩
                · rw [if_neg c10] at H
                  exact absurd H (by simp)
              · rw [if_neg c9] at H
                exact absurd H (by simp)
            · rw [if_neg c8] at H
              exact absurd H (by simp)
          · rw [if_neg c7] at H
            have c7b0 : decide (x12_1 < (l0.length : Int)) = false := decide_eq_false c7
            clear c7
            obtain rfl := Option.some.inj H
            go_wp2
            go_ret
            exact ⟨_, by first | rfl | (simp [errW_none, errW_some] <;> rfl) | (simp only [← hji2]; first | rfl | (simp [errW_none, errW_some] <;> rfl)) | (simp [*, errW_none, errW_some] <;> rfl), by (with_reducible repeat (first | apply Kd.R_alloc | apply Kd.R_drewN | apply Kd.R_drew)); exact HO_3.out, by repeat (first | (with_reducible first | exact HB.out | apply below_alloc | apply pw_below_drewN | apply below_drew1) | exact HB.out)⟩
    · rw [if_neg c4] at H
      exact absurd H (by simp)
  · rw [if_neg c3] at H
    exact absurd H (by simp)

/-! ### bits_Put: function 17 -/
mutual
def bits_Put.j1 : Nat → Int → Int → Option (List Int × Int)
  | 0, _, _ => none
  | k + 1, x0, x1 => if 0 ≤ x1 then (if (x1 : Int).toNat ≤ 281474976710656 then (bits_Put.l0 k x0 x1 (List.replicate (x1 : Int).toNat 0) x1 0) else (none)) else (none)
def bits_Put.l0 : Nat → Int → Int → List Int → Int → Int → Option (List Int × Int)
  | 0, _, _, _, _, _ => none
  | k + 1, x0, x1, x6, x32, x33 => if x33 < x32 then (if 0 ≤ (IntKind.u64.wrap (8 * (IntKind.u64.wrap (x33)))) then (if 0 ≤ (wrap64 ((wrap64 (x1 - 1)) - x33)) then (if (wrap64 ((wrap64 (x1 - 1)) - x33)) < (x6.length : Int) then (bits_Put.l0 k x0 x1 (x6.set ((wrap64 ((wrap64 (x1 - 1)) - x33)) : Int).toNat ((shr .i64 x0 (IntKind.u64.wrap (8 * (IntKind.u64.wrap (x33))))) % 256)) x32 (wrap64 (x33 + 1))) else (none)) else (none)) else (none)) else (some (x6, 0))
def bits_Put.j0 : Nat → Int → Int → Bool → Option (List Int × Int)
  | 0, _, _, _ => none
  | k + 1, x0, x1, x8 => if x8 = true then (some (([] : List Int), 1)) else (if x1 < 8 then (if 0 ≤ (IntKind.u64.wrap (8 * (IntKind.u64.wrap (x1)))) then (if (shr .i64 x0 (IntKind.u64.wrap (8 * (IntKind.u64.wrap (x1))))) > 0 then (some (([] : List Int), 23)) else (bits_Put.j1 k x0 x1)) else (none)) else (bits_Put.j1 k x0 x1))
end
def bits_Put.f (k : Nat) (a0 : Int) (a1 : Int) : Option (List Int × Int) := if a1 < 0 then (bits_Put.j0 k a0 a1 true) else (if a1 > 8 then (bits_Put.j0 k a0 a1 true) else (bits_Put.j0 k a0 a1 (decide (a0 < 0))))
theorem bits_Put.mono_l : ∀ k, (∀ y0 y1, LeO (bits_Put.j1 k y0 y1) (bits_Put.j1 (k + 1) y0 y1)) ∧ (∀ y0 y1 y2 y3 y4, LeO (bits_Put.l0 k y0 y1 y2 y3 y4) (bits_Put.l0 (k + 1) y0 y1 y2 y3 y4)) ∧ (∀ y0 y1 y2, LeO (bits_Put.j0 k y0 y1 y2) (bits_Put.j0 (k + 1) y0 y1 y2))
  | 0 => ⟨fun _ _ r h => by simp [bits_Put.j1] at h, fun _ _ _ _ _ r h => by simp [bits_Put.l0] at h, fun _ _ _ r h => by simp [bits_Put.j0] at h⟩
  | k + 1 => by
    obtain ⟨ih0, ih1, ih2⟩ := bits_Put.mono_l k
    refine ⟨?_, ?_, ?_⟩
    · intro y0 y1
      unfold bits_Put.j1
      repeat' first
      | (with_reducible exact ih0 _ _)
      | (with_reducible exact ih1 _ _ _ _ _)
      | (with_reducible exact ih2 _ _ _)
      | (with_reducible exact LeO.refl _)
      | (with_reducible exact LeO.none _)
      | (with_reducible refine LeO.ite ?_ ?_)
      | (with_reducible refine LeO.bind ?_ (fun _ => ?_))
      | exact ih0 _ _
      | exact ih1 _ _ _ _ _
      | exact ih2 _ _ _
      | exact LeO.none _
      | refine LeO.ite ?_ ?_
      | refine LeO.bind ?_ (fun _ => ?_)
    · intro y0 y1 y2 y3 y4
      unfold bits_Put.l0
      repeat' first
      | (with_reducible exact ih0 _ _)
      | (with_reducible exact ih1 _ _ _ _ _)
      | (with_reducible exact ih2 _ _ _)
      | (with_reducible exact LeO.refl _)
      | (with_reducible exact LeO.none _)
      | (with_reducible refine LeO.ite ?_ ?_)
      | (with_reducible refine LeO.bind ?_ (fun _ => ?_))
      | exact ih0 _ _
      | exact ih1 _ _ _ _ _
      | exact ih2 _ _ _
      | exact LeO.none _
      | refine LeO.ite ?_ ?_
      | refine LeO.bind ?_ (fun _ => ?_)
    · intro y0 y1 y2
      unfold bits_Put.j0
      repeat' first
      | (with_reducible exact ih0 _ _)
      | (with_reducible exact ih1 _ _ _ _ _)
      | (with_reducible exact ih2 _ _ _)
      | (with_reducible exact LeO.refl _)
      | (with_reducible exact LeO.none _)
      | (with_reducible refine LeO.ite ?_ ?_)
      | (with_reducible refine LeO.bind ?_ (fun _ => ?_))
      | exact ih0 _ _
      | exact ih1 _ _ _ _ _
      | exact ih2 _ _ _
      | exact LeO.none _
      | refine LeO.ite ?_ ?_
      | refine LeO.bind ?_ (fun _ => ?_)
theorem bits_Put.mono : ∀ a0 a1 k, LeO (bits_Put.f k a0 a1) (bits_Put.f (k + 1) a0 a1) := by
  intro a0 a1 k
  obtain ⟨ih0, ih1, ih2⟩ := bits_Put.mono_l k
  unfold bits_Put.f
  repeat' first
      | (with_reducible exact ih0 _ _)
      | (with_reducible exact ih1 _ _ _ _ _)
      | (with_reducible exact ih2 _ _ _)
      | (with_reducible exact LeO.refl _)
      | (with_reducible exact LeO.none _)
      | (with_reducible refine LeO.ite ?_ ?_)
      | (with_reducible refine LeO.bind ?_ (fun _ => ?_))
      | exact ih0 _ _
      | exact ih1 _ _ _ _ _
      | exact ih2 _ _ _
      | exact LeO.none _
      | refine LeO.ite ?_ ?_
      | refine LeO.bind ?_ (fun _ => ?_)
set_option maxHeartbeats 8000000 in
set_option maxRecDepth 100000 in
theorem bits_Put.calls (k : Nat) (a0 : Int) (a1 : Int) (r1 : List Int) (r2 : Int) (w : World) (h : bits_Put.f k a0 a1 = some (r1, r2)) :
    Calls Try.prog 17 #[.int .i64 a0, .int .i64 a1] w fun e w' => ∃ v0_ : Value, e = .returned (.tuple #[v0_, .int .i64 r2]) ∧ Kd.R (Kd.int .u8) 5 w' w.heap.size (fun _ => True) v0_ r1 ∧ Below w.heap.size w w' := by
  have HB := Aside0.mk (Below.refl w.heap.size w)
  have H : (if a1 < 0 then (bits_Put.j0 k a0 a1 true) else (if a1 > 8 then (bits_Put.j0 k a0 a1 true) else (bits_Put.j0 k a0 a1 (decide (a0 < 0))))) = some (r1, r2) := h
  clear h
  have HC3 := Aside0.mk H
  clear H
  go_enter Try.func17, Try.ntmps17
  go_upto_block 0 with (fail)
  go_cut [] (fun wc => ∃ (kq : Nat), Aside0 (bits_Put.j1 kq a0 a1 = some (r1, r2)) ∧ Aside0 (kq ≤ k) ∧ Aside0 (Below w.heap.size w wc))
  case first =>
    have H := HC3.out
    clear HC3
    have HC4 := Aside0.mk H
    clear H
    go_upto_region 1 with (fail)
    go_cut [8] (fun v8 wc => ∃ (kq : Nat) (x8_3 : Bool), v8 = .bool x8_3 ∧ Aside0 (bits_Put.j0 kq a0 a1 x8_3 = some (r1, r2)) ∧ Aside0 (kq ≤ k) ∧ Aside0 (Below w.heap.size w wc))
    case first =>
      have H := HC4.out
      clear HC4
      by_cases c5 : a1 < 0
      · rw [if_pos c5] at H
        have c5b0 : decide (a1 < 0) = true := decide_eq_true c5
        clear c5
        (first | rw [c5b0] | (simp only [i64_w, i32_w]; rw [c5b0]) | skip)
        have H' := Aside0.mk H
        clear H
        go_wp2
        go_meet
        case rel => exact ⟨_, (true), (by first | rfl | (simp; done) | (simp [*]; done)), H', ⟨by first | omega | exact Nat.le_refl _⟩, ⟨by repeat (first | (with_reducible first | exact HB.out | apply below_alloc | apply pw_below_drewN | apply below_drew1) | exact HB.out)⟩⟩
      · rw [if_neg c5] at H
        have c5b0 : decide (a1 < 0) = false := decide_eq_false c5
        clear c5
        (first | rw [c5b0] | (simp only [i64_w, i32_w]; rw [c5b0]) | skip)
        by_cases c6 : a1 > 8
        · rw [if_pos c6] at H
          have c6b0 : decide (8 < a1) = true := decide_eq_true c6
          clear c6
          have H' := Aside0.mk H
          clear H
          go_wp2
          go_meet
          case rel => exact ⟨_, (true), (by first | rfl | (simp; done) | (simp [*]; done)), H', ⟨by first | omega | exact Nat.le_refl _⟩, ⟨by repeat (first | (with_reducible first | exact HB.out | apply below_alloc | apply pw_below_drewN | apply below_drew1) | exact HB.out)⟩⟩
        · rw [if_neg c6] at H
          have c6b0 : decide (8 < a1) = false := decide_eq_false c6
          clear c6
          have H' := Aside0.mk H
          clear H
          go_wp2
          go_meet
          case rel => exact ⟨_, (decide (a0 < 0)), (by first | rfl | (simp; done) | (simp [*]; done)), H', ⟨by first | omega | exact Nat.le_refl _⟩, ⟨by repeat (first | (with_reducible first | exact HB.out | apply below_alloc | apply pw_below_drewN | apply below_drew1) | exact HB.out)⟩⟩
    case rest =>
      clear HC4
      try clear c1
      try clear p2
      try clear c5
      try clear c5b0
      try clear c6
      try clear c6b0
      obtain ⟨kq, x8_3, rfl, HA, HJ3, HB⟩ := hcut
      cases kq with
      | zero => exact absurd HA.out (by simp [bits_Put.j0])
      | succ kj3 =>
        have H := HA.out
        clear HA
        simp only [bits_Put.j0] at H
        by_cases c7 : x8_3 = true
        · subst c7
          have H1 : (some (([] : List Int), 1)) = some (r1, r2) := by rw [if_pos rfl] at H; exact H
          clear H
          have H := H1
          clear H1
          simp only [Option.some.injEq, Prod.mk.injEq] at H
          obtain ⟨rfl, rfl⟩ := H
          go_wp2
          go_ret2
          exact ⟨_, by first | rfl | (simp [errW_none, errW_some] <;> rfl) | (simp [*, errW_none, errW_some] <;> rfl), by first | exact Kd.R_nil _ _ _ _ _ | exact Kd.N_nil _ _ _ _ _ | exact Kd.V_nil _ _ _ _ _ | exact Kd.Q_nil _ _ _ _ _ | exact Kd.S_nil _ _ _ _ _, by repeat (first | (with_reducible first | exact HB.out | apply below_alloc | apply pw_below_drewN | apply below_drew1) | exact HB.out)⟩
        · replace c7 := Bool.eq_false_iff.mpr c7
          subst c7
          have H1 : (if a1 < 8 then (if 0 ≤ (IntKind.u64.wrap (8 * (IntKind.u64.wrap (a1)))) then (if (shr .i64 a0 (IntKind.u64.wrap (8 * (IntKind.u64.wrap (a1))))) > 0 then (some (([] : List Int), 23)) else (bits_Put.j1 kj3 a0 a1)) else (none)) else (bits_Put.j1 kj3 a0 a1)) = some (r1, r2) := by rw [if_neg (show ¬ (false = true) by decide)] at H; exact H
          clear H
          have H := H1
          clear H1
          by_cases c8 : a1 < 8
          · rw [if_pos c8] at H
            have c8b0 : decide (a1 < 8) = true := decide_eq_true c8
            clear c8
            obtain ⟨ji9, hji9⟩ : ∃ j_ : Int, (IntKind.u64.wrap (8 * (IntKind.u64.wrap (a1)))) = j_ := ⟨_, rfl⟩
            replace H : (if 0 ≤ (ji9) then (if (shr .i64 a0 (ji9)) > 0 then (some (([] : List Int), 23)) else (bits_Put.j1 kj3 a0 a1)) else (none)) = some (r1, r2) := by first | (rw [hji9] at H; exact H) | (simp only [hji9] at H ⊢; exact H)
            by_cases c10 : 0 ≤ (ji9)
            · rw [if_pos c10] at H
              have c10b0 := eq_true c10
              have c10b1 : decide (0 ≤ (ji9)) = true := decide_eq_true c10
              clear c10
              obtain ⟨ji11, hji11⟩ : ∃ j_ : Int, (shr .i64 a0 (ji9)) = j_ := ⟨_, rfl⟩
              replace H : (if (ji11) > 0 then (some (([] : List Int), 23)) else (bits_Put.j1 kj3 a0 a1)) = some (r1, r2) := by first | (rw [hji11] at H; exact H) | (simp only [hji11] at H ⊢; exact H)
              have hji11_ : (a0 / 2 ^ min (ji9).toNat 64) = ji11 := hji11
              have hji11z : (ji9) ≤ 64 → (a0 / 2 ^ (ji9).toNat) = ji11 := shr_small hji11
              by_cases c12 : (ji11) > 0
              · rw [if_pos c12] at H
                have c12b0 : decide (0 < (ji11)) = true := decide_eq_true c12
                clear c12
                simp only [Option.some.injEq, Prod.mk.injEq] at H
                obtain ⟨rfl, rfl⟩ := H
                go_wp2
                go_ret2
                exact ⟨_, by first | rfl | (simp [errW_none, errW_some] <;> rfl) | (simp only [← hji9, ← hji11]; first | rfl | (simp [errW_none, errW_some] <;> rfl)) | (simp [*, errW_none, errW_some] <;> rfl), by first | exact Kd.R_nil _ _ _ _ _ | exact Kd.N_nil _ _ _ _ _ | exact Kd.V_nil _ _ _ _ _ | exact Kd.Q_nil _ _ _ _ _ | exact Kd.S_nil _ _ _ _ _, by repeat (first | (with_reducible first | exact HB.out | apply below_alloc | apply pw_below_drewN | apply below_drew1) | exact HB.out)⟩
              · rw [if_neg c12] at H
                have c12b0 : decide (0 < (ji11)) = false := decide_eq_false c12
                clear c12
                have H' := Aside0.mk H
                clear H
                go_wp2
                go_meet
                case rel => exact ⟨_, H', ⟨by have := HJ3.out; first | omega | exact Nat.le_refl _⟩, ⟨by repeat (first | (with_reducible first | exact HB.out | apply below_alloc | apply pw_below_drewN | apply below_drew1) | exact HB.out)⟩⟩
            · rw [if_neg c10] at H
              exact absurd H (by simp)
          · rw [if_neg c8] at H
            have c8b0 : decide (a1 < 8) = false := decide_eq_false c8
            clear c8
            have H' := Aside0.mk H
            clear H
            go_wp2
            go_meet
            case rel => exact ⟨_, H', ⟨by have := HJ3.out; first | omega | exact Nat.le_refl _⟩, ⟨by repeat (first | (with_reducible first | exact HB.out | apply below_alloc | apply pw_below_drewN | apply below_drew1) | exact HB.out)⟩⟩
  case rest =>
    clear HC3
    try clear c1
    try clear p2
    try clear c5
    try clear c5b0
    try clear c6
    try clear c6b0
    try clear c7
    try clear c8
    try clear c8b0
    try clear c10
    try clear c10b0
    try clear c10b1
    try clear c12
    try clear c12b0
    try clear p2
    obtain ⟨kq, HA, HJ2, HB⟩ := hcut
    cases kq with
    | zero => exact absurd HA.out (by simp [bits_Put.j1])
    | succ kj2 =>
      have H := HA.out
      clear HA
      simp only [bits_Put.j1] at H
      by_cases c13 : 0 ≤ a1
      · rw [if_pos c13] at H
        have c13b0 := eq_true c13
        have c13b1 : decide (0 ≤ a1) = true := decide_eq_true c13
        clear c13
        by_cases c14 : (a1 : Int).toNat ≤ 281474976710656
        · rw [if_pos c14] at H
          have c14b0 := eq_true c14
          have c14b1 : decide ((a1 : Int).toNat ≤ 281474976710656) = true := decide_eq_true c14
          clear c14
          obtain ⟨y124, hy124⟩ : ∃ y_ : List Int, y_ = (List.replicate (a1 : Int).toNat 0) := ⟨_, rfl⟩
          replace H : (bits_Put.l0 kj2 a0 a1 y124 a1 0) = some (r1, r2) := by first | (rw [hy124]; with_reducible exact H) | (have H2_ := (Option.bind_some _ _).symm.trans H; rw [hy124]; with_reducible exact H2_) | (have H2_ := (Option.bind_some _ _).symm.trans H; with_reducible exact H2_) | with_reducible exact H | (rw [hy124]; exact H) | exact H
          have Ny124 := Aside0.mk hy124
          clear hy124
          have H' := Aside0.mk H
          clear H
          go_wp2_with (first | ((with_reducible refine gate_dst (N := 31) rfl ?_); refine Kd.R_make (Kd.int .u8) _ 5 rfl (N := 31) rfl 26 _ _ rfl a1 rfl rfl Try.underlying26 (.int .u8 0) 1 info5 rfl (by decide) (by omega) 0 (ok := fun _ => True) (okp := fun _ => True) rfl (fun _ hk => hk) trivial (of_decide_eq_true (by first | (with_reducible assumption) | assumption)) (Nat.le_trans (Nat.mul_le_mul_right _ (of_decide_eq_true (by first | (with_reducible assumption) | assumption) : a1.toNat ≤ 281474976710656)) (by omega)) (Below.refl _ _) (Nat.le_refl _) ?_; intro v125 w15 ho16 hb hg_ hnew_; clear hg_ hnew_; (first | rw [← Ny124.out] at ho16 | (simp only [Int.reduceToNat] at ho16; rw [← Ny124.out] at ho16)); have n0_ := Aside0.mk (Kd.R_lower ho16 (below_size (by repeat (first | (with_reducible first | exact HB.out | apply below_alloc | apply pw_below_drewN | apply below_drew1) | exact HB.out)))); have n1_ := Aside0.mk (below_step (by repeat (first | (with_reducible first | exact HB.out | apply below_alloc | apply pw_below_drewN | apply below_drew1) | exact HB.out)) hb); clear HB; have HO126 := n0_; have HB := n1_; clear n0_ n1_; clear hb ho16))
          go_loopg [33] kj2 (fun kq v33 w' => ∃ (x6_2 : List Int) (x33_2 : Int), v33 = .int .i64 x33_2 ∧ Aside0 (bits_Put.l0 kq a0 a1 x6_2 a1 x33_2 = some (r1, r2)) ∧ Aside0 (kq ≤ kj2) ∧ Aside0 (Kd.R (Kd.int .u8) 5 w' w.heap.size (fun _ => True) v125 x6_2) ∧ Aside0 (Below w.heap.size w w'))
          case atStart => exact ⟨(y124), (0), (by first | rfl | (simp; done) | (simp [*]; done)), H', ⟨Nat.le_refl _⟩, ⟨by (with_reducible repeat (first | apply Kd.R_alloc | apply Kd.R_drewN | apply Kd.R_drew)); exact HO126.out⟩, ⟨by repeat (first | (with_reducible first | exact HB.out | apply below_alloc | apply pw_below_drewN | apply below_drew1) | exact HB.out)⟩⟩
          case round =>
            clear H'
            try clear c1
            try clear p2
            try clear c5
            try clear c5b0
            try clear c6
            try clear c6b0
            try clear c7
            try clear c8
            try clear c8b0
            try clear c10
            try clear c10b0
            try clear c10b1
            try clear c12
            try clear c12b0
            try clear c13
            try clear c13b0
            try clear c13b1
            try clear c14
            try clear c14b0
            try clear c14b1
            try clear p2
            obtain ⟨x6_2, x33_2, rfl, HA, HK2, HO_6, HB⟩ := hrel
            cases gk with
            | zero => exact absurd HA.out (by simp [bits_Put.l0])
            | succ k2 =>
              have H := HA.out
              clear HA
              simp only [bits_Put.l0] at H
              by_cases c17 : x33_2 < a1
              · rw [if_pos c17] at H
                have c17b0 : decide (x33_2 < a1) = true := decide_eq_true c17
                clear c17
                obtain ⟨ji18, hji18⟩ : ∃ j_ : Int, (IntKind.u64.wrap (8 * (IntKind.u64.wrap (x33_2)))) = j_ := ⟨_, rfl⟩
                replace H : (if 0 ≤ (ji18) then (if 0 ≤ (wrap64 ((wrap64 (a1 - 1)) - x33_2)) then (if (wrap64 ((wrap64 (a1 - 1)) - x33_2)) < (x6_2.length : Int) then (bits_Put.l0 k2 a0 a1 (x6_2.set ((wrap64 ((wrap64 (a1 - 1)) - x33_2)) : Int).toNat ((shr .i64 a0 (ji18)) % 256)) a1 (wrap64 (x33_2 + 1))) else (none)) else (none)) else (none)) = some (r1, r2) := by first | (rw [hji18] at H; exact H) | (simp only [hji18] at H ⊢; exact H)
                by_cases c19 : 0 ≤ (ji18)
                · rw [if_pos c19] at H
                  have c19b0 := eq_true c19
                  have c19b1 : decide (0 ≤ (ji18)) = true := decide_eq_true c19
                  clear c19
                  obtain ⟨ji20, hji20⟩ : ∃ j_ : Int, (shr .i64 a0 (ji18)) = j_ := ⟨_, rfl⟩
                  replace H : (if 0 ≤ (wrap64 ((wrap64 (a1 - 1)) - x33_2)) then (if (wrap64 ((wrap64 (a1 - 1)) - x33_2)) < (x6_2.length : Int) then (bits_Put.l0 k2 a0 a1 (x6_2.set ((wrap64 ((wrap64 (a1 - 1)) - x33_2)) : Int).toNat ((ji20) % 256)) a1 (wrap64 (x33_2 + 1))) else (none)) else (none)) = some (r1, r2) := by first | (rw [hji20] at H; exact H) | (simp only [hji20] at H ⊢; exact H)
                  have hji20_ : (a0 / 2 ^ min (ji18).toNat 64) = ji20 := hji20
                  have hji20z : (ji18) ≤ 64 → (a0 / 2 ^ (ji18).toNat) = ji20 := shr_small hji20
                  obtain ⟨ji21, hji21⟩ : ∃ j_ : Int, (wrap64 ((wrap64 (a1 - 1)) - x33_2)) = j_ := ⟨_, rfl⟩
                  replace H : (if 0 ≤ (ji21) then (if (ji21) < (x6_2.length : Int) then (bits_Put.l0 k2 a0 a1 (x6_2.set ((ji21) : Int).toNat ((ji20) % 256)) a1 (wrap64 (x33_2 + 1))) else (none)) else (none)) = some (r1, r2) := by first | (rw [hji21] at H; exact H) | (simp only [hji21] at H ⊢; exact H)
                  have hji21w : (IntKind.i64.wrap ((wrap64 (a1 - 1)) - x33_2)) = ji21 := (i64_w _).trans hji21
                  by_cases c22 : 0 ≤ (ji21)
                  · rw [if_pos c22] at H
                    have c22b0 : decide (0 ≤ (ji21)) = true := decide_eq_true c22
                    clear c22
                    by_cases c23 : (ji21) < (x6_2.length : Int)
                    · rw [if_pos c23] at H
                      have c23b0 : decide ((ji21) < (x6_2.length : Int)) = true := decide_eq_true c23
                      clear c23
                      obtain ⟨y127, hy127⟩ : ∃ y_ : List Int, y_ = (x6_2.set ((ji21) : Int).toNat ((ji20) % 256)) := ⟨_, rfl⟩
                      replace H : (bits_Put.l0 k2 a0 a1 y127 a1 (wrap64 (x33_2 + 1))) = some (r1, r2) := by first | (rw [hy127]; with_reducible exact H) | (have H2_ := (Option.bind_some _ _).symm.trans H; rw [hy127]; with_reducible exact H2_) | (have H2_ := (Option.bind_some _ _).symm.trans H; with_reducible exact H2_) | with_reducible exact H | (rw [hy127]; exact H) | exact H
                      have Ny127 := Aside0.mk hy127
                      clear hy127
                      have H' := Aside0.mk H
                      clear H
                      have p24 : 0 ≤ ((ji21) : Int) := of_decide_eq_true (by first | (with_reducible assumption) | assumption)
                      have q24 : ((ji21) : Int) < ((x6_2.length : Int) : Int) := of_decide_eq_true (by first | (with_reducible assumption) | assumption)
                      obtain ⟨go24, co24, eo24, gb24, gl24, cl24, HG24⟩ := Kd.R_form HO_6.out (by omega)
                      (first | cases eo24 | (injection eo24 with ea_ en_ ec_; (first | subst ea_ | (injection ea_ with ea_; subst ea_)); subst ec_; clear en_))
                      have GB24 := Aside0.mk gb24
                      have GG24 := Aside0.mk HG24
                      clear gb24 gl24 HG24
                      obtain ⟨hx24_0, hf24_0⟩ := Kd.R_celln 0 HO_6.out ((ji21) : Int) p24 q24
                      replace p24 := eq_true p24
                      replace q24 := eq_true q24
                      have HP25 := Kd.R_putg HO_6.out ((ji21) : Int) ((ji20) % 256)
                      go_wp2_with (first | ((with_reducible refine gate_store (t := 5) (p := 47) rfl ?_); refine store_event (t := 5) (p := 47) (v := ?vo_w26) (w1 := (wr.setCell ⟨go24, ((ji21) : Int).toNat, none⟩ (.int .u8 ((ji20) % 256)))) ?hg ?ho ?hn ?hr ?_; (case ho => rfl); (case hg => rfl); (case hn => rfl); (case hr => first | (go_simp; done) | (go_simp; rfl)); intro w26 hw; have hg : wr.grownBy w26 (some go24) := (by rw [hw]; exact HP25.2); have hp_ : Kd.R (Kd.int .u8) 5 w26 w.heap.size (fun _ => True) (.slice (some ⟨go24, 0, none⟩) x6_2.length co24) y127 := (by rw [hw, Ny127.out]; exact HP25.1); clear HP25; have n0_ := Aside0.mk (hp_); have n1_ := Aside0.mk ((by rw [hw]; exact below_set (HB.out) GB24.out : Below w.heap.size w w26)); clear HO_6; clear HB; have HO_6 := n0_; have HB := n1_; clear n0_ n1_; clear hg hw hp_))
                      go_roundg k2
                      case measure => have := HJ2.out; have := HK2.out; omega
                      case rel => exact ⟨(y127), (wrap64 (x33_2 + 1)), (by first | rfl | (simp; done) | (simp [*]; done)), H', ⟨by have := HJ2.out; have := HK2.out; omega⟩, ⟨by (with_reducible repeat (first | apply Kd.R_alloc | apply Kd.R_drewN | apply Kd.R_drew)); exact HO_6.out⟩, ⟨by repeat (first | (with_reducible first | exact HB.out | apply below_alloc | apply pw_below_drewN | apply below_drew1) | exact HB.out)⟩⟩
                    · rw [if_neg c23] at H
                      exact absurd H (by simp)
                  · rw [if_neg c22] at H
                    exact absurd H (by simp)
                · rw [if_neg c19] at H
                  exact absurd H (by simp)
              · rw [if_neg c17] at H
                have c17b0 : decide (x33_2 < a1) = false := decide_eq_false c17
                clear c17
                simp only [Option.some.injEq, Prod.mk.injEq] at H
                obtain ⟨rfl, rfl⟩ := H
                go_wp2
                go_ret2
                exact ⟨_, by first | rfl | (simp [errW_none, errW_some] <;> rfl) | (simp [*, errW_none, errW_some] <;> rfl), by (with_reducible repeat (first | apply Kd.R_alloc | apply Kd.R_drewN | apply Kd.R_drew)); exact HO_6.out, by repeat (first | (with_reducible first | exact HB.out | apply below_alloc | apply pw_below_drewN | apply below_drew1) | exact HB.out)⟩
        · rw [if_neg c14] at H
          exact absurd H (by simp)
      · rw [if_neg c13] at H
        exact absurd H (by simp)

/-! ### bits_Get: function 19 -/
def bits_Get.l0 : Nat → Int → List Int → Int → Int → Option (Int × Int)
  | 0, _, _, _, _ => none
  | k + 1, x4, x10, x11, x12 => if x12 < x11 then (if 0 ≤ x12 then (if x12 < (x10.length : Int) then (bits_Get.l0 k (Go.bits .or .u64 (IntKind.u64.wrap (x4 * 256)) (IntKind.u64.wrap (rd x10 x12))) x10 x11 (wrap64 (x12 + 1))) else (none)) else (none)) else (if (x4 / 9223372036854775808) > 0 then (some (0, 23)) else (some (wrap64 (x4), 0)))
def bits_Get.f (k : Nat) (l0 : List Int) : Option (Int × Int) := if (l0.length : Int) > 8 then (some (0, 1)) else (bits_Get.l0 k 0 l0 (l0.length : Int) 0)
theorem bits_Get.mono_l : ∀ k, (∀ y0 y1 y2 y3, LeO (bits_Get.l0 k y0 y1 y2 y3) (bits_Get.l0 (k + 1) y0 y1 y2 y3))
  | 0 => fun _ _ _ _ r h => by simp [bits_Get.l0] at h
  | k + 1 => by
    have ih0 := bits_Get.mono_l k
    · intro y0 y1 y2 y3
      unfold bits_Get.l0
      repeat' first
      | (with_reducible exact ih0 _ _ _ _)
      | (with_reducible exact LeO.refl _)
      | (with_reducible exact LeO.none _)
      | (with_reducible refine LeO.ite ?_ ?_)
      | (with_reducible refine LeO.bind ?_ (fun _ => ?_))
      | exact ih0 _ _ _ _
      | exact LeO.none _
      | refine LeO.ite ?_ ?_
      | refine LeO.bind ?_ (fun _ => ?_)
theorem bits_Get.mono : ∀ a0 k, LeO (bits_Get.f k a0) (bits_Get.f (k + 1) a0) := by
  intro a0 k
  have ih0 := bits_Get.mono_l k
  unfold bits_Get.f
  repeat' first
      | (with_reducible exact ih0 _ _ _ _)
      | (with_reducible exact LeO.refl _)
      | (with_reducible exact LeO.none _)
      | (with_reducible refine LeO.ite ?_ ?_)
      | (with_reducible refine LeO.bind ?_ (fun _ => ?_))
      | exact ih0 _ _ _ _
      | exact LeO.none _
      | refine LeO.ite ?_ ?_
      | refine LeO.bind ?_ (fun _ => ?_)
set_option maxHeartbeats 8000000 in
set_option maxRecDepth 100000 in
theorem bits_Get.calls (k : Nat) (A0 : Option Addr) (c0 : Nat) (l0 : List Int) (r1 : Int) (r2 : Int) (w : World) (hr0 : Kd.C (Kd.int .u8) w A0 l0.length l0) (hc0 : l0.length ≤ c0) (h : bits_Get.f k l0 = some (r1, r2)) :
    Calls Try.prog 19 #[.slice A0 l0.length c0] w fun e w' => e = .returned (.tuple #[.int .i64 r1, .int .i64 r2]) ∧ Drawn0 w w' := by
  have HR0 := Aside0.mk hr0
  have HC0 := Aside0.mk hc0
  clear hr0 hc0
  have H : (if (l0.length : Int) > 8 then (some (0, 1)) else (bits_Get.l0 k 0 l0 (l0.length : Int) 0)) = some (r1, r2) := h
  clear h
  by_cases c2 : (l0.length : Int) > 8
  · rw [if_pos c2] at H
    have c2b0 : decide (8 < (l0.length : Int)) = true := decide_eq_true c2
    have c2b1 : decide (8 < l0.length) = true := decide_eq_true (by omega)
    clear c2
    simp only [Option.some.injEq, Prod.mk.injEq] at H
    obtain ⟨rfl, rfl⟩ := H
    go_enter Try.func19, Try.ntmps19
    go_wp2
    go_ret2
    exact ⟨by first | rfl | (simp; done) | (simp [*]; done), by repeat (first | exact Drawn0.refl _ | apply Drawn0.step)⟩
  · rw [if_neg c2] at H
    have c2b0 : decide (8 < (l0.length : Int)) = false := decide_eq_false c2
    have c2b1 : decide (8 < l0.length) = false := decide_eq_false (by omega)
    clear c2
    have H' := Aside0.mk H
    clear H
    go_enter Try.func19, Try.ntmps19
    go_wp2
    go_loopg [4, 12] k (fun kq v4 v12 w' => ∃ (x4_1 : Int) (x12_1 : Int), v4 = .int .u64 x4_1 ∧ v12 = .int .i64 x12_1 ∧ Aside0 (bits_Get.l0 kq x4_1 l0 (l0.length : Int) x12_1 = some (r1, r2)) ∧ Aside0 (kq ≤ k) ∧ Drawn0 w w')
    case atStart => exact ⟨(0), (0), (by first | rfl | (simp; done) | (simp [*]; done)), (by first | rfl | (simp; done) | (simp [*]; done)), H', ⟨Nat.le_refl _⟩, by repeat (first | exact Drawn0.refl _ | apply Drawn0.step)⟩
    case round =>
      clear H'
      try clear c1
      try clear c2
      try clear c2b0
      try clear c2b1
      try clear p2
      obtain ⟨x4_1, x12_1, rfl, rfl, HA, HK1, ⟨m1, rfl⟩⟩ := hrel
      cases gk with
      | zero => exact absurd HA.out (by simp [bits_Get.l0])
      | succ k1 =>
        have H := HA.out
        clear HA
        simp only [bits_Get.l0] at H
        by_cases c3 : x12_1 < (l0.length : Int)
        · rw [if_pos c3] at H
          have c3b0 : decide (x12_1 < (l0.length : Int)) = true := decide_eq_true c3
          clear c3
          by_cases c4 : 0 ≤ x12_1
          · rw [if_pos c4] at H
            have c4b0 : decide (0 ≤ x12_1) = true := decide_eq_true c4
            clear c4
            by_cases c5 : x12_1 < (l0.length : Int)
            · rw [if_pos c5] at H
              have c5b0 : decide (x12_1 < (l0.length : Int)) = true := decide_eq_true c5
              clear c5
              have H' := Aside0.mk H
              clear H
              have p128 : 0 ≤ (x12_1 : Int) := of_decide_eq_true (by first | (with_reducible assumption) | assumption)
              have q128 : x12_1 < (l0.length : Int) := of_decide_eq_true (by first | (with_reducible assumption) | assumption)
              obtain ⟨ad128, e128, hx128_0⟩ := Kd.at_int HR0.out x12_1 p128 q128
              cases e128
              replace p128 := eq_true p128
              replace q128 := eq_true q128
              go_wp2
              go_roundg k1
              case measure => have := HK1.out; omega
              case rel => exact ⟨(Go.bits .or .u64 (IntKind.u64.wrap (x4_1 * 256)) (IntKind.u64.wrap (rd l0 x12_1))), (wrap64 (x12_1 + 1)), (by first | rfl | (simp; done) | (simp [*]; done)), (by first | rfl | (simp; done) | (simp [*]; done)), H', ⟨by have := HK1.out; omega⟩, by repeat (first | exact Drawn0.refl _ | apply Drawn0.step)⟩
            · rw [if_neg c5] at H
              exact absurd H (by simp)
          · rw [if_neg c4] at H
            exact absurd H (by simp)
        · rw [if_neg c3] at H
          have c3b0 : decide (x12_1 < (l0.length : Int)) = false := decide_eq_false c3
          clear c3
          by_cases c6 : (x4_1 / 9223372036854775808) > 0
          · rw [if_pos c6] at H
            have c6b0 : decide (0 < (x4_1 / 9223372036854775808)) = true := decide_eq_true c6
            clear c6
            simp only [Option.some.injEq, Prod.mk.injEq] at H
            obtain ⟨rfl, rfl⟩ := H
            go_wp2
            go_ret2
            exact ⟨by first | rfl | (simp; done) | (simp [*]; done), by repeat (first | exact Drawn0.refl _ | apply Drawn0.step)⟩
          · rw [if_neg c6] at H
            have c6b0 : decide (0 < (x4_1 / 9223372036854775808)) = false := decide_eq_false c6
            clear c6
            simp only [Option.some.injEq, Prod.mk.injEq] at H
            obtain ⟨rfl, rfl⟩ := H
            go_wp2
            go_ret2
            exact ⟨by first | rfl | (simp; done) | (simp [*]; done), by repeat (first | exact Drawn0.refl _ | apply Drawn0.step)⟩

/-! ### gatelinelaw01_turned: function 8 -/
def gatelinelaw01_turned.f (k : Nat)  : Option (Bool) := (bits_Words.f k (([1, 2, 3, 4, 255, 0, 0, 128] : List Int))).bind fun bt132 => ((bits_Words.f k (([1, 2, 3] : List Int))).bind fun bt139 => ((bits_Put.f k 258 3).bind fun bt143 => ((bits_Put.f k 256 1).bind fun bt147 => ((bits_Get.f k (([0, 1, 2] : List Int))).bind fun bt154 => ((bits_Get.f k (([128, 0, 0, 0, 0, 0, 0, 0] : List Int))).bind fun bt159 => ((bits_Put.f k 1 9).bind fun bt161 => (if bt132.2 = 0 then ((gatelineref01_SameWords.f k bt132.1 (([16909060, 4278190208] : List Int))).bind fun t168 => (if t168 = true then (if bt139.2 = 1 then (if bt143.2 = bt132.2 then ((gatelineref01_Same.f k bt143.1 (([0, 1, 2] : List Int))).bind fun t172 => (if t172 = true then (if bt147.2 = 23 then (if bt154.2 = bt132.2 then (if bt154.1 = 258 then (if bt159.2 = bt147.2 then (if bt161.2 = bt139.2 then ((bits_Rot.f 1 1).bind fun t173 => (if t173 = 2147483648 then ((bits_Rot.f 6 1).bind fun t174 => (if t174 = 3 then ((bits_Rot.f 3 (-1)).bind fun t175 => (if t175 = 6 then ((bits_Bytes.f k (([16909060] : List Int))).bind fun t179 => ((gatelineref01_Same.f k t179 (([1, 2, 3, 4] : List Int))).bind fun t185 => (some t185))) else (none))) else (none))) else (none))) else (none)) else (none)) else (none)) else (none)) else (none)) else (none))) else (none)) else (none)) else (none))) else (none))))))))
theorem gatelinelaw01_turned.mono : ∀ k, LeO (gatelinelaw01_turned.f k ) (gatelinelaw01_turned.f (k + 1) ) := by
  intro  k
  unfold gatelinelaw01_turned.f
  repeat' first
      | (with_reducible exact bits_Bytes.mono _ _)
      | (with_reducible exact bits_Get.mono _ _)
      | (with_reducible exact bits_Put.mono _ _ _)
      | (with_reducible exact bits_Words.mono _ _)
      | (with_reducible exact gatelineref01_Same.mono _ _ _)
      | (with_reducible exact gatelineref01_SameWords.mono _ _ _)
      | (with_reducible exact LeO.refl _)
      | (with_reducible exact LeO.none _)
      | (with_reducible refine LeO.ite ?_ ?_)
      | (with_reducible refine LeO.bind ?_ (fun _ => ?_))
      | exact bits_Bytes.mono _ _
      | exact bits_Get.mono _ _
      | exact bits_Put.mono _ _ _
      | exact bits_Words.mono _ _
      | exact gatelineref01_Same.mono _ _ _
      | exact gatelineref01_SameWords.mono _ _ _
      | exact LeO.none _
      | refine LeO.ite ?_ ?_
      | refine LeO.bind ?_ (fun _ => ?_)
set_option maxHeartbeats 8000000 in
set_option maxRecDepth 100000 in
theorem gatelinelaw01_turned.calls (k : Nat)  (r : Bool) (w : World) (h : gatelinelaw01_turned.f k  = some r) :
    Calls Try.prog 8 #[] w fun e w' => e = .returned (.bool r) ∧ Below w.heap.size w w' := by
  have HB := Aside0.mk (Below.refl w.heap.size w)
  have H : ((bits_Words.f k (([1, 2, 3, 4, 255, 0, 0, 128] : List Int))).bind fun bt132 => ((bits_Words.f k (([1, 2, 3] : List Int))).bind fun bt139 => ((bits_Put.f k 258 3).bind fun bt143 => ((bits_Put.f k 256 1).bind fun bt147 => ((bits_Get.f k (([0, 1, 2] : List Int))).bind fun bt154 => ((bits_Get.f k (([128, 0, 0, 0, 0, 0, 0, 0] : List Int))).bind fun bt159 => ((bits_Put.f k 1 9).bind fun bt161 => (if bt132.2 = 0 then ((gatelineref01_SameWords.f k bt132.1 (([16909060, 4278190208] : List Int))).bind fun t168 => (if t168 = true then (if bt139.2 = 1 then (if bt143.2 = bt132.2 then ((gatelineref01_Same.f k bt143.1 (([0, 1, 2] : List Int))).bind fun t172 => (if t172 = true then (if bt147.2 = 23 then (if bt154.2 = bt132.2 then (if bt154.1 = 258 then (if bt159.2 = bt147.2 then (if bt161.2 = bt139.2 then ((bits_Rot.f 1 1).bind fun t173 => (if t173 = 2147483648 then ((bits_Rot.f 6 1).bind fun t174 => (if t174 = 3 then ((bits_Rot.f 3 (-1)).bind fun t175 => (if t175 = 6 then ((bits_Bytes.f k (([16909060] : List Int))).bind fun t179 => ((gatelineref01_Same.f k t179 (([1, 2, 3, 4] : List Int))).bind fun t185 => (some t185))) else (none))) else (none))) else (none))) else (none)) else (none)) else (none)) else (none)) else (none)) else (none))) else (none)) else (none)) else (none))) else (none))))))))) = some r := h
  clear h
  obtain ⟨y129, hy129⟩ : ∃ y_ : List Int, y_ = (([1, 2, 3, 4, 255, 0, 0, 128] : List Int)) := ⟨_, rfl⟩
  replace H : ((bits_Words.f k y129).bind fun bt132 => ((bits_Words.f k (([1, 2, 3] : List Int))).bind fun bt139 => ((bits_Put.f k 258 3).bind fun bt143 => ((bits_Put.f k 256 1).bind fun bt147 => ((bits_Get.f k (([0, 1, 2] : List Int))).bind fun bt154 => ((bits_Get.f k (([128, 0, 0, 0, 0, 0, 0, 0] : List Int))).bind fun bt159 => ((bits_Put.f k 1 9).bind fun bt161 => (if bt132.2 = 0 then ((gatelineref01_SameWords.f k bt132.1 (([16909060, 4278190208] : List Int))).bind fun t168 => (if t168 = true then (if bt139.2 = 1 then (if bt143.2 = bt132.2 then ((gatelineref01_Same.f k bt143.1 (([0, 1, 2] : List Int))).bind fun t172 => (if t172 = true then (if bt147.2 = 23 then (if bt154.2 = bt132.2 then (if bt154.1 = 258 then (if bt159.2 = bt147.2 then (if bt161.2 = bt139.2 then ((bits_Rot.f 1 1).bind fun t173 => (if t173 = 2147483648 then ((bits_Rot.f 6 1).bind fun t174 => (if t174 = 3 then ((bits_Rot.f 3 (-1)).bind fun t175 => (if t175 = 6 then ((bits_Bytes.f k (([16909060] : List Int))).bind fun t179 => ((gatelineref01_Same.f k t179 (([1, 2, 3, 4] : List Int))).bind fun t185 => (some t185))) else (none))) else (none))) else (none))) else (none)) else (none)) else (none)) else (none)) else (none)) else (none))) else (none)) else (none)) else (none))) else (none))))))))) = some r := by first | (rw [hy129]; with_reducible exact H) | (have H2_ := (Option.bind_some _ _).symm.trans H; rw [hy129]; with_reducible exact H2_) | (have H2_ := (Option.bind_some _ _).symm.trans H; with_reducible exact H2_) | with_reducible exact H | (rw [hy129]; exact H) | exact H
  have Ny129 := Aside0.mk hy129
  clear hy129
  replace H := Option.bind_eq_some_iff.mp H
  obtain ⟨⟨t132, t133⟩, A10, H⟩ := H
  replace H : ((bits_Words.f k (([1, 2, 3] : List Int))).bind fun bt139 => ((bits_Put.f k 258 3).bind fun bt143 => ((bits_Put.f k 256 1).bind fun bt147 => ((bits_Get.f k (([0, 1, 2] : List Int))).bind fun bt154 => ((bits_Get.f k (([128, 0, 0, 0, 0, 0, 0, 0] : List Int))).bind fun bt159 => ((bits_Put.f k 1 9).bind fun bt161 => (if t133 = 0 then ((gatelineref01_SameWords.f k t132 (([16909060, 4278190208] : List Int))).bind fun t168 => (if t168 = true then (if bt139.2 = 1 then (if bt143.2 = t133 then ((gatelineref01_Same.f k bt143.1 (([0, 1, 2] : List Int))).bind fun t172 => (if t172 = true then (if bt147.2 = 23 then (if bt154.2 = t133 then (if bt154.1 = 258 then (if bt159.2 = bt147.2 then (if bt161.2 = bt139.2 then ((bits_Rot.f 1 1).bind fun t173 => (if t173 = 2147483648 then ((bits_Rot.f 6 1).bind fun t174 => (if t174 = 3 then ((bits_Rot.f 3 (-1)).bind fun t175 => (if t175 = 6 then ((bits_Bytes.f k (([16909060] : List Int))).bind fun t179 => ((gatelineref01_Same.f k t179 (([1, 2, 3, 4] : List Int))).bind fun t185 => (some t185))) else (none))) else (none))) else (none))) else (none)) else (none)) else (none)) else (none)) else (none)) else (none))) else (none)) else (none)) else (none))) else (none)))))))) = some r := H
  have A1 := Aside0.mk A10
  clear A10
  obtain ⟨y136, hy136⟩ : ∃ y_ : List Int, y_ = (([1, 2, 3] : List Int)) := ⟨_, rfl⟩
  replace H : ((bits_Words.f k y136).bind fun bt139 => ((bits_Put.f k 258 3).bind fun bt143 => ((bits_Put.f k 256 1).bind fun bt147 => ((bits_Get.f k (([0, 1, 2] : List Int))).bind fun bt154 => ((bits_Get.f k (([128, 0, 0, 0, 0, 0, 0, 0] : List Int))).bind fun bt159 => ((bits_Put.f k 1 9).bind fun bt161 => (if t133 = 0 then ((gatelineref01_SameWords.f k t132 (([16909060, 4278190208] : List Int))).bind fun t168 => (if t168 = true then (if bt139.2 = 1 then (if bt143.2 = t133 then ((gatelineref01_Same.f k bt143.1 (([0, 1, 2] : List Int))).bind fun t172 => (if t172 = true then (if bt147.2 = 23 then (if bt154.2 = t133 then (if bt154.1 = 258 then (if bt159.2 = bt147.2 then (if bt161.2 = bt139.2 then ((bits_Rot.f 1 1).bind fun t173 => (if t173 = 2147483648 then ((bits_Rot.f 6 1).bind fun t174 => (if t174 = 3 then ((bits_Rot.f 3 (-1)).bind fun t175 => (if t175 = 6 then ((bits_Bytes.f k (([16909060] : List Int))).bind fun t179 => ((gatelineref01_Same.f k t179 (([1, 2, 3, 4] : List Int))).bind fun t185 => (some t185))) else (none))) else (none))) else (none))) else (none)) else (none)) else (none)) else (none)) else (none)) else (none))) else (none)) else (none)) else (none))) else (none)))))))) = some r := by first | (rw [hy136]; with_reducible exact H) | (have H2_ := (Option.bind_some _ _).symm.trans H; rw [hy136]; with_reducible exact H2_) | (have H2_ := (Option.bind_some _ _).symm.trans H; with_reducible exact H2_) | with_reducible exact H | (rw [hy136]; exact H) | exact H
  have Ny136 := Aside0.mk hy136
  clear hy136
  replace H := Option.bind_eq_some_iff.mp H
  obtain ⟨⟨t139, t140⟩, A20, H⟩ := H
  replace H : ((bits_Put.f k 258 3).bind fun bt143 => ((bits_Put.f k 256 1).bind fun bt147 => ((bits_Get.f k (([0, 1, 2] : List Int))).bind fun bt154 => ((bits_Get.f k (([128, 0, 0, 0, 0, 0, 0, 0] : List Int))).bind fun bt159 => ((bits_Put.f k 1 9).bind fun bt161 => (if t133 = 0 then ((gatelineref01_SameWords.f k t132 (([16909060, 4278190208] : List Int))).bind fun t168 => (if t168 = true then (if t140 = 1 then (if bt143.2 = t133 then ((gatelineref01_Same.f k bt143.1 (([0, 1, 2] : List Int))).bind fun t172 => (if t172 = true then (if bt147.2 = 23 then (if bt154.2 = t133 then (if bt154.1 = 258 then (if bt159.2 = bt147.2 then (if bt161.2 = t140 then ((bits_Rot.f 1 1).bind fun t173 => (if t173 = 2147483648 then ((bits_Rot.f 6 1).bind fun t174 => (if t174 = 3 then ((bits_Rot.f 3 (-1)).bind fun t175 => (if t175 = 6 then ((bits_Bytes.f k (([16909060] : List Int))).bind fun t179 => ((gatelineref01_Same.f k t179 (([1, 2, 3, 4] : List Int))).bind fun t185 => (some t185))) else (none))) else (none))) else (none))) else (none)) else (none)) else (none)) else (none)) else (none)) else (none))) else (none)) else (none)) else (none))) else (none))))))) = some r := H
  have A2 := Aside0.mk A20
  clear A20
  replace H := Option.bind_eq_some_iff.mp H
  obtain ⟨⟨t143, t144⟩, A30, H⟩ := H
  replace H : ((bits_Put.f k 256 1).bind fun bt147 => ((bits_Get.f k (([0, 1, 2] : List Int))).bind fun bt154 => ((bits_Get.f k (([128, 0, 0, 0, 0, 0, 0, 0] : List Int))).bind fun bt159 => ((bits_Put.f k 1 9).bind fun bt161 => (if t133 = 0 then ((gatelineref01_SameWords.f k t132 (([16909060, 4278190208] : List Int))).bind fun t168 => (if t168 = true then (if t140 = 1 then (if t144 = t133 then ((gatelineref01_Same.f k t143 (([0, 1, 2] : List Int))).bind fun t172 => (if t172 = true then (if bt147.2 = 23 then (if bt154.2 = t133 then (if bt154.1 = 258 then (if bt159.2 = bt147.2 then (if bt161.2 = t140 then ((bits_Rot.f 1 1).bind fun t173 => (if t173 = 2147483648 then ((bits_Rot.f 6 1).bind fun t174 => (if t174 = 3 then ((bits_Rot.f 3 (-1)).bind fun t175 => (if t175 = 6 then ((bits_Bytes.f k (([16909060] : List Int))).bind fun t179 => ((gatelineref01_Same.f k t179 (([1, 2, 3, 4] : List Int))).bind fun t185 => (some t185))) else (none))) else (none))) else (none))) else (none)) else (none)) else (none)) else (none)) else (none)) else (none))) else (none)) else (none)) else (none))) else (none)))))) = some r := H
  have A3 := Aside0.mk A30
  clear A30
  replace H := Option.bind_eq_some_iff.mp H
  obtain ⟨⟨t147, t148⟩, A40, H⟩ := H
  replace H : ((bits_Get.f k (([0, 1, 2] : List Int))).bind fun bt154 => ((bits_Get.f k (([128, 0, 0, 0, 0, 0, 0, 0] : List Int))).bind fun bt159 => ((bits_Put.f k 1 9).bind fun bt161 => (if t133 = 0 then ((gatelineref01_SameWords.f k t132 (([16909060, 4278190208] : List Int))).bind fun t168 => (if t168 = true then (if t140 = 1 then (if t144 = t133 then ((gatelineref01_Same.f k t143 (([0, 1, 2] : List Int))).bind fun t172 => (if t172 = true then (if t148 = 23 then (if bt154.2 = t133 then (if bt154.1 = 258 then (if bt159.2 = t148 then (if bt161.2 = t140 then ((bits_Rot.f 1 1).bind fun t173 => (if t173 = 2147483648 then ((bits_Rot.f 6 1).bind fun t174 => (if t174 = 3 then ((bits_Rot.f 3 (-1)).bind fun t175 => (if t175 = 6 then ((bits_Bytes.f k (([16909060] : List Int))).bind fun t179 => ((gatelineref01_Same.f k t179 (([1, 2, 3, 4] : List Int))).bind fun t185 => (some t185))) else (none))) else (none))) else (none))) else (none)) else (none)) else (none)) else (none)) else (none)) else (none))) else (none)) else (none)) else (none))) else (none))))) = some r := H
  have A4 := Aside0.mk A40
  clear A40
  obtain ⟨y151, hy151⟩ : ∃ y_ : List Int, y_ = (([0, 1, 2] : List Int)) := ⟨_, rfl⟩
  replace H : ((bits_Get.f k y151).bind fun bt154 => ((bits_Get.f k (([128, 0, 0, 0, 0, 0, 0, 0] : List Int))).bind fun bt159 => ((bits_Put.f k 1 9).bind fun bt161 => (if t133 = 0 then ((gatelineref01_SameWords.f k t132 (([16909060, 4278190208] : List Int))).bind fun t168 => (if t168 = true then (if t140 = 1 then (if t144 = t133 then ((gatelineref01_Same.f k t143 (([0, 1, 2] : List Int))).bind fun t172 => (if t172 = true then (if t148 = 23 then (if bt154.2 = t133 then (if bt154.1 = 258 then (if bt159.2 = t148 then (if bt161.2 = t140 then ((bits_Rot.f 1 1).bind fun t173 => (if t173 = 2147483648 then ((bits_Rot.f 6 1).bind fun t174 => (if t174 = 3 then ((bits_Rot.f 3 (-1)).bind fun t175 => (if t175 = 6 then ((bits_Bytes.f k (([16909060] : List Int))).bind fun t179 => ((gatelineref01_Same.f k t179 (([1, 2, 3, 4] : List Int))).bind fun t185 => (some t185))) else (none))) else (none))) else (none))) else (none)) else (none)) else (none)) else (none)) else (none)) else (none))) else (none)) else (none)) else (none))) else (none))))) = some r := by first | (rw [hy151]; with_reducible exact H) | (have H2_ := (Option.bind_some _ _).symm.trans H; rw [hy151]; with_reducible exact H2_) | (have H2_ := (Option.bind_some _ _).symm.trans H; with_reducible exact H2_) | with_reducible exact H | (rw [hy151]; exact H) | exact H
  have Ny151 := Aside0.mk hy151
  clear hy151
  replace H := Option.bind_eq_some_iff.mp H
  obtain ⟨⟨t154, t155⟩, A50, H⟩ := H
  replace H : ((bits_Get.f k (([128, 0, 0, 0, 0, 0, 0, 0] : List Int))).bind fun bt159 => ((bits_Put.f k 1 9).bind fun bt161 => (if t133 = 0 then ((gatelineref01_SameWords.f k t132 (([16909060, 4278190208] : List Int))).bind fun t168 => (if t168 = true then (if t140 = 1 then (if t144 = t133 then ((gatelineref01_Same.f k t143 (([0, 1, 2] : List Int))).bind fun t172 => (if t172 = true then (if t148 = 23 then (if t155 = t133 then (if t154 = 258 then (if bt159.2 = t148 then (if bt161.2 = t140 then ((bits_Rot.f 1 1).bind fun t173 => (if t173 = 2147483648 then ((bits_Rot.f 6 1).bind fun t174 => (if t174 = 3 then ((bits_Rot.f 3 (-1)).bind fun t175 => (if t175 = 6 then ((bits_Bytes.f k (([16909060] : List Int))).bind fun t179 => ((gatelineref01_Same.f k t179 (([1, 2, 3, 4] : List Int))).bind fun t185 => (some t185))) else (none))) else (none))) else (none))) else (none)) else (none)) else (none)) else (none)) else (none)) else (none))) else (none)) else (none)) else (none))) else (none)))) = some r := H
  have A5 := Aside0.mk A50
  clear A50
  obtain ⟨y156, hy156⟩ : ∃ y_ : List Int, y_ = (([128, 0, 0, 0, 0, 0, 0, 0] : List Int)) := ⟨_, rfl⟩
  replace H : ((bits_Get.f k y156).bind fun bt159 => ((bits_Put.f k 1 9).bind fun bt161 => (if t133 = 0 then ((gatelineref01_SameWords.f k t132 (([16909060, 4278190208] : List Int))).bind fun t168 => (if t168 = true then (if t140 = 1 then (if t144 = t133 then ((gatelineref01_Same.f k t143 (([0, 1, 2] : List Int))).bind fun t172 => (if t172 = true then (if t148 = 23 then (if t155 = t133 then (if t154 = 258 then (if bt159.2 = t148 then (if bt161.2 = t140 then ((bits_Rot.f 1 1).bind fun t173 => (if t173 = 2147483648 then ((bits_Rot.f 6 1).bind fun t174 => (if t174 = 3 then ((bits_Rot.f 3 (-1)).bind fun t175 => (if t175 = 6 then ((bits_Bytes.f k (([16909060] : List Int))).bind fun t179 => ((gatelineref01_Same.f k t179 (([1, 2, 3, 4] : List Int))).bind fun t185 => (some t185))) else (none))) else (none))) else (none))) else (none)) else (none)) else (none)) else (none)) else (none)) else (none))) else (none)) else (none)) else (none))) else (none)))) = some r := by first | (rw [hy156]; with_reducible exact H) | (have H2_ := (Option.bind_some _ _).symm.trans H; rw [hy156]; with_reducible exact H2_) | (have H2_ := (Option.bind_some _ _).symm.trans H; with_reducible exact H2_) | with_reducible exact H | (rw [hy156]; exact H) | exact H
  have Ny156 := Aside0.mk hy156
  clear hy156
  replace H := Option.bind_eq_some_iff.mp H
  obtain ⟨⟨t159, t160⟩, A60, H⟩ := H
  replace H : ((bits_Put.f k 1 9).bind fun bt161 => (if t133 = 0 then ((gatelineref01_SameWords.f k t132 (([16909060, 4278190208] : List Int))).bind fun t168 => (if t168 = true then (if t140 = 1 then (if t144 = t133 then ((gatelineref01_Same.f k t143 (([0, 1, 2] : List Int))).bind fun t172 => (if t172 = true then (if t148 = 23 then (if t155 = t133 then (if t154 = 258 then (if t160 = t148 then (if bt161.2 = t140 then ((bits_Rot.f 1 1).bind fun t173 => (if t173 = 2147483648 then ((bits_Rot.f 6 1).bind fun t174 => (if t174 = 3 then ((bits_Rot.f 3 (-1)).bind fun t175 => (if t175 = 6 then ((bits_Bytes.f k (([16909060] : List Int))).bind fun t179 => ((gatelineref01_Same.f k t179 (([1, 2, 3, 4] : List Int))).bind fun t185 => (some t185))) else (none))) else (none))) else (none))) else (none)) else (none)) else (none)) else (none)) else (none)) else (none))) else (none)) else (none)) else (none))) else (none))) = some r := H
  have A6 := Aside0.mk A60
  clear A60
  replace H := Option.bind_eq_some_iff.mp H
  obtain ⟨⟨t161, t162⟩, A70, H⟩ := H
  replace H : (if t133 = 0 then ((gatelineref01_SameWords.f k t132 (([16909060, 4278190208] : List Int))).bind fun t168 => (if t168 = true then (if t140 = 1 then (if t144 = t133 then ((gatelineref01_Same.f k t143 (([0, 1, 2] : List Int))).bind fun t172 => (if t172 = true then (if t148 = 23 then (if t155 = t133 then (if t154 = 258 then (if t160 = t148 then (if t162 = t140 then ((bits_Rot.f 1 1).bind fun t173 => (if t173 = 2147483648 then ((bits_Rot.f 6 1).bind fun t174 => (if t174 = 3 then ((bits_Rot.f 3 (-1)).bind fun t175 => (if t175 = 6 then ((bits_Bytes.f k (([16909060] : List Int))).bind fun t179 => ((gatelineref01_Same.f k t179 (([1, 2, 3, 4] : List Int))).bind fun t185 => (some t185))) else (none))) else (none))) else (none))) else (none)) else (none)) else (none)) else (none)) else (none)) else (none))) else (none)) else (none)) else (none))) else (none)) = some r := H
  have A7 := Aside0.mk A70
  clear A70
  by_cases c8 : t133 = 0
  · rw [if_pos c8] at H
    have c8b0 : (t133 == 0) = true := beq_iff_eq.mpr c8
    have c8b1 : (t133 != 0) = false := bne_eq_false_iff_eq.mpr c8
    clear c8
    obtain ⟨y165, hy165⟩ : ∃ y_ : List Int, y_ = (([16909060, 4278190208] : List Int)) := ⟨_, rfl⟩
    replace H : ((gatelineref01_SameWords.f k t132 y165).bind fun t168 => (if t168 = true then (if t140 = 1 then (if t144 = t133 then ((gatelineref01_Same.f k t143 (([0, 1, 2] : List Int))).bind fun t172 => (if t172 = true then (if t148 = 23 then (if t155 = t133 then (if t154 = 258 then (if t160 = t148 then (if t162 = t140 then ((bits_Rot.f 1 1).bind fun t173 => (if t173 = 2147483648 then ((bits_Rot.f 6 1).bind fun t174 => (if t174 = 3 then ((bits_Rot.f 3 (-1)).bind fun t175 => (if t175 = 6 then ((bits_Bytes.f k (([16909060] : List Int))).bind fun t179 => ((gatelineref01_Same.f k t179 (([1, 2, 3, 4] : List Int))).bind fun t185 => (some t185))) else (none))) else (none))) else (none))) else (none)) else (none)) else (none)) else (none)) else (none)) else (none))) else (none)) else (none)) else (none))) = some r := by first | (rw [hy165]; with_reducible exact H) | (have H2_ := (Option.bind_some _ _).symm.trans H; rw [hy165]; with_reducible exact H2_) | (have H2_ := (Option.bind_some _ _).symm.trans H; with_reducible exact H2_) | with_reducible exact H | (rw [hy165]; exact H) | exact H
    have Ny165 := Aside0.mk hy165
    clear hy165
    replace H := Option.bind_eq_some_iff.mp H
    obtain ⟨t168, A90, H⟩ := H
    replace H : (if t168 = true then (if t140 = 1 then (if t144 = t133 then ((gatelineref01_Same.f k t143 (([0, 1, 2] : List Int))).bind fun t172 => (if t172 = true then (if t148 = 23 then (if t155 = t133 then (if t154 = 258 then (if t160 = t148 then (if t162 = t140 then ((bits_Rot.f 1 1).bind fun t173 => (if t173 = 2147483648 then ((bits_Rot.f 6 1).bind fun t174 => (if t174 = 3 then ((bits_Rot.f 3 (-1)).bind fun t175 => (if t175 = 6 then ((bits_Bytes.f k (([16909060] : List Int))).bind fun t179 => ((gatelineref01_Same.f k t179 (([1, 2, 3, 4] : List Int))).bind fun t185 => (some t185))) else (none))) else (none))) else (none))) else (none)) else (none)) else (none)) else (none)) else (none)) else (none))) else (none)) else (none)) else (none)) = some r := H
    have A9 := Aside0.mk A90
    clear A90
    by_cases c10 : t168 = true
    · subst c10
      have H1 : (if t140 = 1 then (if t144 = t133 then ((gatelineref01_Same.f k t143 (([0, 1, 2] : List Int))).bind fun t172 => (if t172 = true then (if t148 = 23 then (if t155 = t133 then (if t154 = 258 then (if t160 = t148 then (if t162 = t140 then ((bits_Rot.f 1 1).bind fun t173 => (if t173 = 2147483648 then ((bits_Rot.f 6 1).bind fun t174 => (if t174 = 3 then ((bits_Rot.f 3 (-1)).bind fun t175 => (if t175 = 6 then ((bits_Bytes.f k (([16909060] : List Int))).bind fun t179 => ((gatelineref01_Same.f k t179 (([1, 2, 3, 4] : List Int))).bind fun t185 => (some t185))) else (none))) else (none))) else (none))) else (none)) else (none)) else (none)) else (none)) else (none)) else (none))) else (none)) else (none)) = some r := by rw [if_pos rfl] at H; exact H
      clear H
      have H := H1
      clear H1
      by_cases c11 : t140 = 1
      · rw [if_pos c11] at H
        have c11b0 : (t140 == 1) = true := beq_iff_eq.mpr c11
        have c11b1 : (t140 != 1) = false := bne_eq_false_iff_eq.mpr c11
        clear c11
        by_cases c12 : t144 = t133
        · rw [if_pos c12] at H
          have c12b0 : (t144 == t133) = true := beq_iff_eq.mpr c12
          have c12b1 : (t144 != t133) = false := bne_eq_false_iff_eq.mpr c12
          clear c12
          obtain ⟨y169, hy169⟩ : ∃ y_ : List Int, y_ = (([0, 1, 2] : List Int)) := ⟨_, rfl⟩
          replace H : ((gatelineref01_Same.f k t143 y169).bind fun t172 => (if t172 = true then (if t148 = 23 then (if t155 = t133 then (if t154 = 258 then (if t160 = t148 then (if t162 = t140 then ((bits_Rot.f 1 1).bind fun t173 => (if t173 = 2147483648 then ((bits_Rot.f 6 1).bind fun t174 => (if t174 = 3 then ((bits_Rot.f 3 (-1)).bind fun t175 => (if t175 = 6 then ((bits_Bytes.f k (([16909060] : List Int))).bind fun t179 => ((gatelineref01_Same.f k t179 (([1, 2, 3, 4] : List Int))).bind fun t185 => (some t185))) else (none))) else (none))) else (none))) else (none)) else (none)) else (none)) else (none)) else (none)) else (none))) = some r := by first | (rw [hy169]; with_reducible exact H) | (have H2_ := (Option.bind_some _ _).symm.trans H; rw [hy169]; with_reducible exact H2_) | (have H2_ := (Option.bind_some _ _).symm.trans H; with_reducible exact H2_) | with_reducible exact H | (rw [hy169]; exact H) | exact H
          have Ny169 := Aside0.mk hy169
          clear hy169
          replace H := Option.bind_eq_some_iff.mp H
          obtain ⟨t172, A130, H⟩ := H
          replace H : (if t172 = true then (if t148 = 23 then (if t155 = t133 then (if t154 = 258 then (if t160 = t148 then (if t162 = t140 then ((bits_Rot.f 1 1).bind fun t173 => (if t173 = 2147483648 then ((bits_Rot.f 6 1).bind fun t174 => (if t174 = 3 then ((bits_Rot.f 3 (-1)).bind fun t175 => (if t175 = 6 then ((bits_Bytes.f k (([16909060] : List Int))).bind fun t179 => ((gatelineref01_Same.f k t179 (([1, 2, 3, 4] : List Int))).bind fun t185 => (some t185))) else (none))) else (none))) else (none))) else (none)) else (none)) else (none)) else (none)) else (none)) else (none)) = some r := H
          have A13 := Aside0.mk A130
          clear A130
          by_cases c14 : t172 = true
          · subst c14
            have H1 : (if t148 = 23 then (if t155 = t133 then (if t154 = 258 then (if t160 = t148 then (if t162 = t140 then ((bits_Rot.f 1 1).bind fun t173 => (if t173 = 2147483648 then ((bits_Rot.f 6 1).bind fun t174 => (if t174 = 3 then ((bits_Rot.f 3 (-1)).bind fun t175 => (if t175 = 6 then ((bits_Bytes.f k (([16909060] : List Int))).bind fun t179 => ((gatelineref01_Same.f k t179 (([1, 2, 3, 4] : List Int))).bind fun t185 => (some t185))) else (none))) else (none))) else (none))) else (none)) else (none)) else (none)) else (none)) else (none)) = some r := by rw [if_pos rfl] at H; exact H
            clear H
            have H := H1
            clear H1
            by_cases c15 : t148 = 23
            · rw [if_pos c15] at H
              have c15b0 : (t148 == 23) = true := beq_iff_eq.mpr c15
              have c15b1 : (t148 != 23) = false := bne_eq_false_iff_eq.mpr c15
              clear c15
              by_cases c16 : t155 = t133
              · rw [if_pos c16] at H
                have c16b0 : (t155 == t133) = true := beq_iff_eq.mpr c16
                have c16b1 : (t155 != t133) = false := bne_eq_false_iff_eq.mpr c16
                clear c16
                by_cases c17 : t154 = 258
                · rw [if_pos c17] at H
                  have c17b0 : (t154 == 258) = true := beq_iff_eq.mpr c17
                  have c17b1 : (t154 != 258) = false := bne_eq_false_iff_eq.mpr c17
                  clear c17
                  by_cases c18 : t160 = t148
                  · rw [if_pos c18] at H
                    have c18b0 : (t160 == t148) = true := beq_iff_eq.mpr c18
                    have c18b1 : (t160 != t148) = false := bne_eq_false_iff_eq.mpr c18
                    clear c18
                    by_cases c19 : t162 = t140
                    · rw [if_pos c19] at H
                      have c19b0 : (t162 == t140) = true := beq_iff_eq.mpr c19
                      have c19b1 : (t162 != t140) = false := bne_eq_false_iff_eq.mpr c19
                      clear c19
                      replace H := Option.bind_eq_some_iff.mp H
                      obtain ⟨t173, A200, H⟩ := H
                      replace H : (if t173 = 2147483648 then ((bits_Rot.f 6 1).bind fun t174 => (if t174 = 3 then ((bits_Rot.f 3 (-1)).bind fun t175 => (if t175 = 6 then ((bits_Bytes.f k (([16909060] : List Int))).bind fun t179 => ((gatelineref01_Same.f k t179 (([1, 2, 3, 4] : List Int))).bind fun t185 => (some t185))) else (none))) else (none))) else (none)) = some r := H
                      have A20 := Aside0.mk A200
                      clear A200
                      by_cases c21 : t173 = 2147483648
                      · rw [if_pos c21] at H
                        have c21b0 : (t173 == 2147483648) = true := beq_iff_eq.mpr c21
                        have c21b1 : (t173 != 2147483648) = false := bne_eq_false_iff_eq.mpr c21
                        clear c21
                        replace H := Option.bind_eq_some_iff.mp H
                        obtain ⟨t174, A220, H⟩ := H
                        replace H : (if t174 = 3 then ((bits_Rot.f 3 (-1)).bind fun t175 => (if t175 = 6 then ((bits_Bytes.f k (([16909060] : List Int))).bind fun t179 => ((gatelineref01_Same.f k t179 (([1, 2, 3, 4] : List Int))).bind fun t185 => (some t185))) else (none))) else (none)) = some r := H
                        have A22 := Aside0.mk A220
                        clear A220
                        by_cases c23 : t174 = 3
                        · rw [if_pos c23] at H
                          have c23b0 : (t174 == 3) = true := beq_iff_eq.mpr c23
                          have c23b1 : (t174 != 3) = false := bne_eq_false_iff_eq.mpr c23
                          clear c23
                          replace H := Option.bind_eq_some_iff.mp H
                          obtain ⟨t175, A240, H⟩ := H
                          replace H : (if t175 = 6 then ((bits_Bytes.f k (([16909060] : List Int))).bind fun t179 => ((gatelineref01_Same.f k t179 (([1, 2, 3, 4] : List Int))).bind fun t185 => (some t185))) else (none)) = some r := H
                          have A24 := Aside0.mk A240
                          clear A240
                          by_cases c25 : t175 = 6
                          · rw [if_pos c25] at H
                            have c25b0 : (t175 == 6) = true := beq_iff_eq.mpr c25
                            have c25b1 : (t175 != 6) = false := bne_eq_false_iff_eq.mpr c25
                            clear c25
                            obtain ⟨y176, hy176⟩ : ∃ y_ : List Int, y_ = (([16909060] : List Int)) := ⟨_, rfl⟩
                            replace H : ((bits_Bytes.f k y176).bind fun t179 => ((gatelineref01_Same.f k t179 (([1, 2, 3, 4] : List Int))).bind fun t185 => (some t185))) = some r := by first | (rw [hy176]; with_reducible exact H) | (have H2_ := (Option.bind_some _ _).symm.trans H; rw [hy176]; with_reducible exact H2_) | (have H2_ := (Option.bind_some _ _).symm.trans H; with_reducible exact H2_) | with_reducible exact H | (rw [hy176]; exact H) | exact H
                            have Ny176 := Aside0.mk hy176
                            clear hy176
                            replace H := Option.bind_eq_some_iff.mp H
                            obtain ⟨t179, A260, H⟩ := H
                            replace H : ((gatelineref01_Same.f k t179 (([1, 2, 3, 4] : List Int))).bind fun t185 => (some t185)) = some r := H
                            have A26 := Aside0.mk A260
                            clear A260
                            obtain ⟨y182, hy182⟩ : ∃ y_ : List Int, y_ = (([1, 2, 3, 4] : List Int)) := ⟨_, rfl⟩
                            replace H : ((gatelineref01_Same.f k t179 y182).bind fun t185 => (some t185)) = some r := by first | (rw [hy182]; with_reducible exact H) | (have H2_ := (Option.bind_some _ _).symm.trans H; rw [hy182]; with_reducible exact H2_) | (have H2_ := (Option.bind_some _ _).symm.trans H; with_reducible exact H2_) | with_reducible exact H | (rw [hy182]; exact H) | exact H
                            have Ny182 := Aside0.mk hy182
                            clear hy182
                            replace H := Option.bind_eq_some_iff.mp H
                            obtain ⟨t185, A270, H⟩ := H
                            replace H : (some t185) = some r := H
                            have A27 := Aside0.mk A270
                            clear A270
                            obtain rfl := Option.some.inj H
                            go_enter Try.func8, Try.ntmps8
                            go_wp2_with (first | ((with_reducible refine gate_dst (N := 16) rfl ?_); (try (refine gate_guard (by rfl) ?_; dsimp only)); refine Kd.R_lit (Kd.int .u8) _ 5 ?hg (N := 16) ?hd (xs := ([1, 2, 3, 4, 255, 0, 0, 128] : List Int)) (inner := [.int .u8 1, .int .u8 2, .int .u8 3, .int .u8 4, .int .u8 255, .int .u8 0, .int .u8 0, .int .u8 128]) (ok := fun _ => True) (okp := fun _ => True) ?hr ?hp (fun _ hk => hk) trivial (Below.refl _ _) (Nat.le_refl _) (by simp) ?_; (case hd => rfl); (case hg => rfl); (case hr => first | (go_simp; done) | (go_simp; rfl) | (go_simp; simp [gm_u8, gm_u32, gm_tmod]; done)); (case hp => exact (Reps.one (show Kd.M (Kd.int .u8) _ _ _ 1 [.int .u8 1] from rfl) (Reps.one (show Kd.M (Kd.int .u8) _ _ _ 2 [.int .u8 2] from rfl) (Reps.one (show Kd.M (Kd.int .u8) _ _ _ 3 [.int .u8 3] from rfl) (Reps.one (show Kd.M (Kd.int .u8) _ _ _ 4 [.int .u8 4] from rfl) (Reps.one (show Kd.M (Kd.int .u8) _ _ _ 255 [.int .u8 255] from rfl) (Reps.one (show Kd.M (Kd.int .u8) _ _ _ 0 [.int .u8 0] from rfl) (Reps.one (show Kd.M (Kd.int .u8) _ _ _ 0 [.int .u8 0] from rfl) (Reps.one (show Kd.M (Kd.int .u8) _ _ _ 128 [.int .u8 128] from rfl) (Reps.none _ _)))))))))); intro v130 w28 ho29 hb hg_ hnew_; clear hg_ hnew_; (first | rw [← Ny129.out] at ho29 | (simp only [Int.reduceToNat] at ho29; rw [← Ny129.out] at ho29)); have n0_ := Aside0.mk (Kd.R_lower ho29 (below_size (by repeat (first | (with_reducible first | exact HB.out | apply below_alloc | apply pw_below_drewN | apply below_drew1) | exact HB.out)))); have n1_ := Aside0.mk (below_step (by repeat (first | (with_reducible first | exact HB.out | apply below_alloc | apply pw_below_drewN | apply below_drew1) | exact HB.out)) hb); clear HB; have HO131 := n0_; have HB := n1_; clear n0_ n1_; clear hb ho29; obtain ⟨Ao30, co30, eo30⟩ := Kd.R_slice HO131.out; subst eo30) | ((with_reducible refine gate_callee (f := 11) rfl ?_); refine goesL_ (some 17) rfl rfl Try.func11 (by kernel_rfl) rfl #[.slice Ao30 y129.length co30] rfl (by (try simp only [List.map_toArray, List.map_cons, List.map_nil]); first | done | rfl | (simp only [List.length_drop, List.length_take]; rfl)) ?_; (with_reducible refine (bits_Words.calls k _ _ y129 t132 t133 _ ?side1 ?side2 A1.out).mono ?_); (case side1 => repeat (first | exact (Kd.R_reads' HO131.out).2.2 | (with_reducible refine Kd.C_alloc ?_ _) | (with_reducible refine Kd.C_drewN ?_ _) | (with_reducible refine Kd.C_drew ?_))); (case side2 => exact (Kd.R_reads' HO131.out).2.1); rintro e w31 ⟨v134, rfl, ho0, hb⟩; refine ⟨_, rfl, ?_⟩; have n0_ := Aside0.mk (Kd.R_below (by (with_reducible repeat (first | apply Kd.R_alloc | apply Kd.R_drewN | apply Kd.R_drew)); exact HO131.out) hb); have n1_ := Aside0.mk (Kd.R_lower ho0 (below_size (by repeat (first | (with_reducible first | exact HB.out | apply below_alloc | apply pw_below_drewN | apply below_drew1) | exact HB.out)))); have n2_ := Aside0.mk (below_step (by repeat (first | (with_reducible first | exact HB.out | apply below_alloc | apply pw_below_drewN | apply below_drew1) | exact HB.out)) hb); clear HO131; clear HB; have HO131 := n0_; have HO135 := n1_; have HB := n2_; clear n0_ n1_ n2_; (try clear hb); (try clear hb2); (try clear hk); (try clear hi); (try clear ho0); (try clear A1)) | ((with_reducible refine gate_dst (N := 21) rfl ?_); (try (refine gate_guard (by rfl) ?_; dsimp only)); refine Kd.R_lit (Kd.int .u8) _ 5 ?hg (N := 21) ?hd (xs := ([1, 2, 3] : List Int)) (inner := [.int .u8 1, .int .u8 2, .int .u8 3]) (ok := fun _ => True) (okp := fun _ => True) ?hr ?hp (fun _ hk => hk) trivial (Below.refl _ _) (Nat.le_refl _) (by simp) ?_; (case hd => rfl); (case hg => rfl); (case hr => first | (go_simp; done) | (go_simp; rfl) | (go_simp; simp [gm_u8, gm_u32, gm_tmod]; done)); (case hp => exact (Reps.one (show Kd.M (Kd.int .u8) _ _ _ 1 [.int .u8 1] from rfl) (Reps.one (show Kd.M (Kd.int .u8) _ _ _ 2 [.int .u8 2] from rfl) (Reps.one (show Kd.M (Kd.int .u8) _ _ _ 3 [.int .u8 3] from rfl) (Reps.none _ _))))); intro v137 w32 ho33 hb hg_ hnew_; clear hg_ hnew_; (first | rw [← Ny136.out] at ho33 | (simp only [Int.reduceToNat] at ho33; rw [← Ny136.out] at ho33)); have n0_ := Aside0.mk (Kd.R_elder' (by (with_reducible repeat (first | apply Kd.R_alloc | apply Kd.R_drewN | apply Kd.R_drew)); exact HO131.out) (Kd.R_base ho33) hb); have n1_ := Aside0.mk (Kd.R_below (by (with_reducible repeat (first | apply Kd.R_alloc | apply Kd.R_drewN | apply Kd.R_drew)); exact HO135.out) hb); have n2_ := Aside0.mk (Kd.R_lower (Kd.R_new' ho33 (Kd.R_lt (by (with_reducible repeat (first | apply Kd.R_alloc | apply Kd.R_drewN | apply Kd.R_drew)); exact HO131.out))) (below_size (by repeat (first | (with_reducible first | exact HB.out | apply below_alloc | apply pw_below_drewN | apply below_drew1) | exact HB.out)))); have n3_ := Aside0.mk (below_step (by repeat (first | (with_reducible first | exact HB.out | apply below_alloc | apply pw_below_drewN | apply below_drew1) | exact HB.out)) hb); clear HO131; clear HO135; clear HB; have HO131 := n0_; have HO135 := n1_; have HO138 := n2_; have HB := n3_; clear n0_ n1_ n2_ n3_; clear hb ho33; obtain ⟨Ao34, co34, eo34⟩ := Kd.R_slice HO138.out; subst eo34) | ((with_reducible refine gate_callee (f := 11) rfl ?_); refine goesL_ (some 22) rfl rfl Try.func11 (by kernel_rfl) rfl #[.slice Ao34 y136.length co34] rfl (by (try simp only [List.map_toArray, List.map_cons, List.map_nil]); first | done | rfl | (simp only [List.length_drop, List.length_take]; rfl)) ?_; (with_reducible refine (bits_Words.calls k _ _ y136 t139 t140 _ ?side1 ?side2 A2.out).mono ?_); (case side1 => repeat (first | exact (Kd.R_reads' HO138.out).2.2 | (with_reducible refine Kd.C_alloc ?_ _) | (with_reducible refine Kd.C_drewN ?_ _) | (with_reducible refine Kd.C_drew ?_))); (case side2 => exact (Kd.R_reads' HO138.out).2.1); rintro e w35 ⟨v141, rfl, ho0, hb⟩; refine ⟨_, rfl, ?_⟩; have n0_ := Aside0.mk (Kd.R_below (by (with_reducible repeat (first | apply Kd.R_alloc | apply Kd.R_drewN | apply Kd.R_drew)); exact HO131.out) hb); have n1_ := Aside0.mk (Kd.R_elder' (by (with_reducible repeat (first | apply Kd.R_alloc | apply Kd.R_drewN | apply Kd.R_drew)); exact HO135.out) (Kd.R_base ho0) hb); have n2_ := Aside0.mk (Kd.R_below (by (with_reducible repeat (first | apply Kd.R_alloc | apply Kd.R_drewN | apply Kd.R_drew)); exact HO138.out) hb); have n3_ := Aside0.mk (Kd.R_lower (Kd.R_new' ho0 (Kd.R_lt (by (with_reducible repeat (first | apply Kd.R_alloc | apply Kd.R_drewN | apply Kd.R_drew)); exact HO135.out))) (below_size (by repeat (first | (with_reducible first | exact HB.out | apply below_alloc | apply pw_below_drewN | apply below_drew1) | exact HB.out)))); have n4_ := Aside0.mk (below_step (by repeat (first | (with_reducible first | exact HB.out | apply below_alloc | apply pw_below_drewN | apply below_drew1) | exact HB.out)) hb); clear HO131; clear HO135; clear HO138; clear HB; have HO131 := n0_; have HO135 := n1_; have HO138 := n2_; have HO142 := n3_; have HB := n4_; clear n0_ n1_ n2_ n3_ n4_; (try clear hb); (try clear hb2); (try clear hk); (try clear hi); (try clear ho0); (try clear A2)) | ((with_reducible refine gate_callee (f := 17) rfl ?_); refine goesL_ (some 26) rfl rfl Try.func17 (by kernel_rfl) rfl #[.int .i64 258, .int .i64 3] rfl (by (try simp only [List.map_toArray, List.map_cons, List.map_nil]); first | done | rfl | (simp only [List.length_drop, List.length_take]; rfl)) ?_; (with_reducible refine (bits_Put.calls k 258 3 t143 t144 _ A3.out).mono ?_); rintro e w36 ⟨v145, rfl, ho0, hb⟩; refine ⟨_, rfl, ?_⟩; have n0_ := Aside0.mk (Kd.R_elder' (by (with_reducible repeat (first | apply Kd.R_alloc | apply Kd.R_drewN | apply Kd.R_drew)); exact HO131.out) (Kd.R_base ho0) hb); have n1_ := Aside0.mk (Kd.R_below (by (with_reducible repeat (first | apply Kd.R_alloc | apply Kd.R_drewN | apply Kd.R_drew)); exact HO135.out) hb); have n2_ := Aside0.mk (Kd.R_elder' (by (with_reducible repeat (first | apply Kd.R_alloc | apply Kd.R_drewN | apply Kd.R_drew)); exact HO138.out) (Kd.R_base ho0) hb); have n3_ := Aside0.mk (Kd.R_below (by (with_reducible repeat (first | apply Kd.R_alloc | apply Kd.R_drewN | apply Kd.R_drew)); exact HO142.out) hb); have n4_ := Aside0.mk (Kd.R_lower (Kd.R_new' (Kd.R_new' ho0 (Kd.R_lt (by (with_reducible repeat (first | apply Kd.R_alloc | apply Kd.R_drewN | apply Kd.R_drew)); exact HO131.out))) (Kd.R_lt (by (with_reducible repeat (first | apply Kd.R_alloc | apply Kd.R_drewN | apply Kd.R_drew)); exact HO138.out))) (below_size (by repeat (first | (with_reducible first | exact HB.out | apply below_alloc | apply pw_below_drewN | apply below_drew1) | exact HB.out)))); have n5_ := Aside0.mk (below_step (by repeat (first | (with_reducible first | exact HB.out | apply below_alloc | apply pw_below_drewN | apply below_drew1) | exact HB.out)) hb); clear HO131; clear HO135; clear HO138; clear HO142; clear HB; have HO131 := n0_; have HO135 := n1_; have HO138 := n2_; have HO142 := n3_; have HO146 := n4_; have HB := n5_; clear n0_ n1_ n2_ n3_ n4_ n5_; (try clear hb); (try clear hb2); (try clear hk); (try clear hi); (try clear ho0); (try clear A3)) | ((with_reducible refine gate_callee (f := 17) rfl ?_); refine goesL_ (some 30) rfl rfl Try.func17 (by kernel_rfl) rfl #[.int .i64 256, .int .i64 1] rfl (by (try simp only [List.map_toArray, List.map_cons, List.map_nil]); first | done | rfl | (simp only [List.length_drop, List.length_take]; rfl)) ?_; (with_reducible refine (bits_Put.calls k 256 1 t147 t148 _ A4.out).mono ?_); rintro e w37 ⟨v149, rfl, ho0, hb⟩; refine ⟨_, rfl, ?_⟩; have n0_ := Aside0.mk (Kd.R_elder' (by (with_reducible repeat (first | apply Kd.R_alloc | apply Kd.R_drewN | apply Kd.R_drew)); exact HO131.out) (Kd.R_base ho0) hb); have n1_ := Aside0.mk (Kd.R_below (by (with_reducible repeat (first | apply Kd.R_alloc | apply Kd.R_drewN | apply Kd.R_drew)); exact HO135.out) hb); have n2_ := Aside0.mk (Kd.R_elder' (by (with_reducible repeat (first | apply Kd.R_alloc | apply Kd.R_drewN | apply Kd.R_drew)); exact HO138.out) (Kd.R_base ho0) hb); have n3_ := Aside0.mk (Kd.R_below (by (with_reducible repeat (first | apply Kd.R_alloc | apply Kd.R_drewN | apply Kd.R_drew)); exact HO142.out) hb); have n4_ := Aside0.mk (Kd.R_elder' (by (with_reducible repeat (first | apply Kd.R_alloc | apply Kd.R_drewN | apply Kd.R_drew)); exact HO146.out) (Kd.R_base ho0) hb); have n5_ := Aside0.mk (Kd.R_lower (Kd.R_new' (Kd.R_new' (Kd.R_new' ho0 (Kd.R_lt (by (with_reducible repeat (first | apply Kd.R_alloc | apply Kd.R_drewN | apply Kd.R_drew)); exact HO131.out))) (Kd.R_lt (by (with_reducible repeat (first | apply Kd.R_alloc | apply Kd.R_drewN | apply Kd.R_drew)); exact HO138.out))) (Kd.R_lt (by (with_reducible repeat (first | apply Kd.R_alloc | apply Kd.R_drewN | apply Kd.R_drew)); exact HO146.out))) (below_size (by repeat (first | (with_reducible first | exact HB.out | apply below_alloc | apply pw_below_drewN | apply below_drew1) | exact HB.out)))); have n6_ := Aside0.mk (below_step (by repeat (first | (with_reducible first | exact HB.out | apply below_alloc | apply pw_below_drewN | apply below_drew1) | exact HB.out)) hb); clear HO131; clear HO135; clear HO138; clear HO142; clear HO146; clear HB; have HO131 := n0_; have HO135 := n1_; have HO138 := n2_; have HO142 := n3_; have HO146 := n4_; have HO150 := n5_; have HB := n6_; clear n0_ n1_ n2_ n3_ n4_ n5_ n6_; (try clear hb); (try clear hb2); (try clear hk); (try clear hi); (try clear ho0); (try clear A4)) | ((with_reducible refine gate_dst (N := 34) rfl ?_); (try (refine gate_guard (by rfl) ?_; dsimp only)); refine Kd.R_lit (Kd.int .u8) _ 5 ?hg (N := 34) ?hd (xs := ([0, 1, 2] : List Int)) (inner := [.int .u8 0, .int .u8 1, .int .u8 2]) (ok := fun _ => True) (okp := fun _ => True) ?hr ?hp (fun _ hk => hk) trivial (Below.refl _ _) (Nat.le_refl _) (by simp) ?_; (case hd => rfl); (case hg => rfl); (case hr => first | (go_simp; done) | (go_simp; rfl) | (go_simp; simp [gm_u8, gm_u32, gm_tmod]; done)); (case hp => exact (Reps.one (show Kd.M (Kd.int .u8) _ _ _ 0 [.int .u8 0] from rfl) (Reps.one (show Kd.M (Kd.int .u8) _ _ _ 1 [.int .u8 1] from rfl) (Reps.one (show Kd.M (Kd.int .u8) _ _ _ 2 [.int .u8 2] from rfl) (Reps.none _ _))))); intro v152 w38 ho39 hb hg_ hnew_; clear hg_ hnew_; (first | rw [← Ny151.out] at ho39 | (simp only [Int.reduceToNat] at ho39; rw [← Ny151.out] at ho39)); have n0_ := Aside0.mk (Kd.R_elder' (by (with_reducible repeat (first | apply Kd.R_alloc | apply Kd.R_drewN | apply Kd.R_drew)); exact HO131.out) (Kd.R_base ho39) hb); have n1_ := Aside0.mk (Kd.R_below (by (with_reducible repeat (first | apply Kd.R_alloc | apply Kd.R_drewN | apply Kd.R_drew)); exact HO135.out) hb); have n2_ := Aside0.mk (Kd.R_elder' (by (with_reducible repeat (first | apply Kd.R_alloc | apply Kd.R_drewN | apply Kd.R_drew)); exact HO138.out) (Kd.R_base ho39) hb); have n3_ := Aside0.mk (Kd.R_below (by (with_reducible repeat (first | apply Kd.R_alloc | apply Kd.R_drewN | apply Kd.R_drew)); exact HO142.out) hb); have n4_ := Aside0.mk (Kd.R_elder' (by (with_reducible repeat (first | apply Kd.R_alloc | apply Kd.R_drewN | apply Kd.R_drew)); exact HO146.out) (Kd.R_base ho39) hb); have n5_ := Aside0.mk (Kd.R_elder' (by (with_reducible repeat (first | apply Kd.R_alloc | apply Kd.R_drewN | apply Kd.R_drew)); exact HO150.out) (Kd.R_base ho39) hb); have n6_ := Aside0.mk (Kd.R_lower (Kd.R_new' (Kd.R_new' (Kd.R_new' (Kd.R_new' ho39 (Kd.R_lt (by (with_reducible repeat (first | apply Kd.R_alloc | apply Kd.R_drewN | apply Kd.R_drew)); exact HO131.out))) (Kd.R_lt (by (with_reducible repeat (first | apply Kd.R_alloc | apply Kd.R_drewN | apply Kd.R_drew)); exact HO138.out))) (Kd.R_lt (by (with_reducible repeat (first | apply Kd.R_alloc | apply Kd.R_drewN | apply Kd.R_drew)); exact HO146.out))) (Kd.R_lt (by (with_reducible repeat (first | apply Kd.R_alloc | apply Kd.R_drewN | apply Kd.R_drew)); exact HO150.out))) (below_size (by repeat (first | (with_reducible first | exact HB.out | apply below_alloc | apply pw_below_drewN | apply below_drew1) | exact HB.out)))); have n7_ := Aside0.mk (below_step (by repeat (first | (with_reducible first | exact HB.out | apply below_alloc | apply pw_below_drewN | apply below_drew1) | exact HB.out)) hb); clear HO131; clear HO135; clear HO138; clear HO142; clear HO146; clear HO150; clear HB; have HO131 := n0_; have HO135 := n1_; have HO138 := n2_; have HO142 := n3_; have HO146 := n4_; have HO150 := n5_; have HO153 := n6_; have HB := n7_; clear n0_ n1_ n2_ n3_ n4_ n5_ n6_ n7_; clear hb ho39; obtain ⟨Ao40, co40, eo40⟩ := Kd.R_slice HO153.out; subst eo40) | ((with_reducible refine gate_callee (f := 19) rfl ?_); refine goesL_ (some 35) rfl rfl Try.func19 (by kernel_rfl) rfl #[.slice Ao40 y151.length co40] rfl (by (try simp only [List.map_toArray, List.map_cons, List.map_nil]); first | done | rfl | (simp only [List.length_drop, List.length_take]; rfl)) ?_; (with_reducible refine (bits_Get.calls k _ _ y151 t154 t155 _ ?side1 ?side2 A5.out).mono ?_); (case side1 => repeat (first | exact (Kd.R_reads' HO153.out).2.2 | (with_reducible refine Kd.C_alloc ?_ _) | (with_reducible refine Kd.C_drewN ?_ _) | (with_reducible refine Kd.C_drew ?_))); (case side2 => exact (Kd.R_reads' HO153.out).2.1); rintro e w' ⟨rfl, ⟨nd, rfl⟩⟩; refine ⟨_, rfl, ?_⟩; (try clear A5)) | ((with_reducible refine gate_dst (N := 39) rfl ?_); (try (refine gate_guard (by rfl) ?_; dsimp only)); refine Kd.R_lit (Kd.int .u8) _ 5 ?hg (N := 39) ?hd (xs := ([128, 0, 0, 0, 0, 0, 0, 0] : List Int)) (inner := [.int .u8 128, .int .u8 0, .int .u8 0, .int .u8 0, .int .u8 0, .int .u8 0, .int .u8 0, .int .u8 0]) (ok := fun _ => True) (okp := fun _ => True) ?hr ?hp (fun _ hk => hk) trivial (Below.refl _ _) (Nat.le_refl _) (by simp) ?_; (case hd => rfl); (case hg => rfl); (case hr => first | (go_simp; done) | (go_simp; rfl) | (go_simp; simp [gm_u8, gm_u32, gm_tmod]; done)); (case hp => exact (Reps.one (show Kd.M (Kd.int .u8) _ _ _ 128 [.int .u8 128] from rfl) (Reps.one (show Kd.M (Kd.int .u8) _ _ _ 0 [.int .u8 0] from rfl) (Reps.one (show Kd.M (Kd.int .u8) _ _ _ 0 [.int .u8 0] from rfl) (Reps.one (show Kd.M (Kd.int .u8) _ _ _ 0 [.int .u8 0] from rfl) (Reps.one (show Kd.M (Kd.int .u8) _ _ _ 0 [.int .u8 0] from rfl) (Reps.one (show Kd.M (Kd.int .u8) _ _ _ 0 [.int .u8 0] from rfl) (Reps.one (show Kd.M (Kd.int .u8) _ _ _ 0 [.int .u8 0] from rfl) (Reps.one (show Kd.M (Kd.int .u8) _ _ _ 0 [.int .u8 0] from rfl) (Reps.none _ _)))))))))); intro v157 w41 ho42 hb hg_ hnew_; clear hg_ hnew_; (first | rw [← Ny156.out] at ho42 | (simp only [Int.reduceToNat] at ho42; rw [← Ny156.out] at ho42)); have n0_ := Aside0.mk (Kd.R_elder' (by (with_reducible repeat (first | apply Kd.R_alloc | apply Kd.R_drewN | apply Kd.R_drew)); exact HO131.out) (Kd.R_base ho42) hb); have n1_ := Aside0.mk (Kd.R_below (by (with_reducible repeat (first | apply Kd.R_alloc | apply Kd.R_drewN | apply Kd.R_drew)); exact HO135.out) hb); have n2_ := Aside0.mk (Kd.R_elder' (by (with_reducible repeat (first | apply Kd.R_alloc | apply Kd.R_drewN | apply Kd.R_drew)); exact HO138.out) (Kd.R_base ho42) hb); have n3_ := Aside0.mk (Kd.R_below (by (with_reducible repeat (first | apply Kd.R_alloc | apply Kd.R_drewN | apply Kd.R_drew)); exact HO142.out) hb); have n4_ := Aside0.mk (Kd.R_elder' (by (with_reducible repeat (first | apply Kd.R_alloc | apply Kd.R_drewN | apply Kd.R_drew)); exact HO146.out) (Kd.R_base ho42) hb); have n5_ := Aside0.mk (Kd.R_elder' (by (with_reducible repeat (first | apply Kd.R_alloc | apply Kd.R_drewN | apply Kd.R_drew)); exact HO150.out) (Kd.R_base ho42) hb); have n6_ := Aside0.mk (Kd.R_elder' (by (with_reducible repeat (first | apply Kd.R_alloc | apply Kd.R_drewN | apply Kd.R_drew)); exact HO153.out) (Kd.R_base ho42) hb); have n7_ := Aside0.mk (Kd.R_lower (Kd.R_new' (Kd.R_new' (Kd.R_new' (Kd.R_new' (Kd.R_new' ho42 (Kd.R_lt (by (with_reducible repeat (first | apply Kd.R_alloc | apply Kd.R_drewN | apply Kd.R_drew)); exact HO131.out))) (Kd.R_lt (by (with_reducible repeat (first | apply Kd.R_alloc | apply Kd.R_drewN | apply Kd.R_drew)); exact HO138.out))) (Kd.R_lt (by (with_reducible repeat (first | apply Kd.R_alloc | apply Kd.R_drewN | apply Kd.R_drew)); exact HO146.out))) (Kd.R_lt (by (with_reducible repeat (first | apply Kd.R_alloc | apply Kd.R_drewN | apply Kd.R_drew)); exact HO150.out))) (Kd.R_lt (by (with_reducible repeat (first | apply Kd.R_alloc | apply Kd.R_drewN | apply Kd.R_drew)); exact HO153.out))) (below_size (by repeat (first | (with_reducible first | exact HB.out | apply below_alloc | apply pw_below_drewN | apply below_drew1) | exact HB.out)))); have n8_ := Aside0.mk (below_step (by repeat (first | (with_reducible first | exact HB.out | apply below_alloc | apply pw_below_drewN | apply below_drew1) | exact HB.out)) hb); clear HO131; clear HO135; clear HO138; clear HO142; clear HO146; clear HO150; clear HO153; clear HB; have HO131 := n0_; have HO135 := n1_; have HO138 := n2_; have HO142 := n3_; have HO146 := n4_; have HO150 := n5_; have HO153 := n6_; have HO158 := n7_; have HB := n8_; clear n0_ n1_ n2_ n3_ n4_ n5_ n6_ n7_ n8_; clear hb ho42; obtain ⟨Ao43, co43, eo43⟩ := Kd.R_slice HO158.out; subst eo43) | ((with_reducible refine gate_callee (f := 19) rfl ?_); refine goesL_ (some 40) rfl rfl Try.func19 (by kernel_rfl) rfl #[.slice Ao43 y156.length co43] rfl (by (try simp only [List.map_toArray, List.map_cons, List.map_nil]); first | done | rfl | (simp only [List.length_drop, List.length_take]; rfl)) ?_; (with_reducible refine (bits_Get.calls k _ _ y156 t159 t160 _ ?side1 ?side2 A6.out).mono ?_); (case side1 => repeat (first | exact (Kd.R_reads' HO158.out).2.2 | (with_reducible refine Kd.C_alloc ?_ _) | (with_reducible refine Kd.C_drewN ?_ _) | (with_reducible refine Kd.C_drew ?_))); (case side2 => exact (Kd.R_reads' HO158.out).2.1); rintro e w' ⟨rfl, ⟨nd, rfl⟩⟩; refine ⟨_, rfl, ?_⟩; (try clear A6)) | ((with_reducible refine gate_callee (f := 17) rfl ?_); refine goesL_ (some 44) rfl rfl Try.func17 (by kernel_rfl) rfl #[.int .i64 1, .int .i64 9] rfl (by (try simp only [List.map_toArray, List.map_cons, List.map_nil]); first | done | rfl | (simp only [List.length_drop, List.length_take]; rfl)) ?_; (with_reducible refine (bits_Put.calls k 1 9 t161 t162 _ A7.out).mono ?_); rintro e w44 ⟨v163, rfl, ho0, hb⟩; refine ⟨_, rfl, ?_⟩; have n0_ := Aside0.mk (Kd.R_elder' (by (with_reducible repeat (first | apply Kd.R_alloc | apply Kd.R_drewN | apply Kd.R_drew)); exact HO131.out) (Kd.R_base ho0) hb); have n1_ := Aside0.mk (Kd.R_below (by (with_reducible repeat (first | apply Kd.R_alloc | apply Kd.R_drewN | apply Kd.R_drew)); exact HO135.out) hb); have n2_ := Aside0.mk (Kd.R_elder' (by (with_reducible repeat (first | apply Kd.R_alloc | apply Kd.R_drewN | apply Kd.R_drew)); exact HO138.out) (Kd.R_base ho0) hb); have n3_ := Aside0.mk (Kd.R_below (by (with_reducible repeat (first | apply Kd.R_alloc | apply Kd.R_drewN | apply Kd.R_drew)); exact HO142.out) hb); have n4_ := Aside0.mk (Kd.R_elder' (by (with_reducible repeat (first | apply Kd.R_alloc | apply Kd.R_drewN | apply Kd.R_drew)); exact HO146.out) (Kd.R_base ho0) hb); have n5_ := Aside0.mk (Kd.R_elder' (by (with_reducible repeat (first | apply Kd.R_alloc | apply Kd.R_drewN | apply Kd.R_drew)); exact HO150.out) (Kd.R_base ho0) hb); have n6_ := Aside0.mk (Kd.R_elder' (by (with_reducible repeat (first | apply Kd.R_alloc | apply Kd.R_drewN | apply Kd.R_drew)); exact HO153.out) (Kd.R_base ho0) hb); have n7_ := Aside0.mk (Kd.R_elder' (by (with_reducible repeat (first | apply Kd.R_alloc | apply Kd.R_drewN | apply Kd.R_drew)); exact HO158.out) (Kd.R_base ho0) hb); have n8_ := Aside0.mk (Kd.R_lower (Kd.R_new' (Kd.R_new' (Kd.R_new' (Kd.R_new' (Kd.R_new' (Kd.R_new' ho0 (Kd.R_lt (by (with_reducible repeat (first | apply Kd.R_alloc | apply Kd.R_drewN | apply Kd.R_drew)); exact HO131.out))) (Kd.R_lt (by (with_reducible repeat (first | apply Kd.R_alloc | apply Kd.R_drewN | apply Kd.R_drew)); exact HO138.out))) (Kd.R_lt (by (with_reducible repeat (first | apply Kd.R_alloc | apply Kd.R_drewN | apply Kd.R_drew)); exact HO146.out))) (Kd.R_lt (by (with_reducible repeat (first | apply Kd.R_alloc | apply Kd.R_drewN | apply Kd.R_drew)); exact HO150.out))) (Kd.R_lt (by (with_reducible repeat (first | apply Kd.R_alloc | apply Kd.R_drewN | apply Kd.R_drew)); exact HO153.out))) (Kd.R_lt (by (with_reducible repeat (first | apply Kd.R_alloc | apply Kd.R_drewN | apply Kd.R_drew)); exact HO158.out))) (below_size (by repeat (first | (with_reducible first | exact HB.out | apply below_alloc | apply pw_below_drewN | apply below_drew1) | exact HB.out)))); have n9_ := Aside0.mk (below_step (by repeat (first | (with_reducible first | exact HB.out | apply below_alloc | apply pw_below_drewN | apply below_drew1) | exact HB.out)) hb); clear HO131; clear HO135; clear HO138; clear HO142; clear HO146; clear HO150; clear HO153; clear HO158; clear HB; have HO131 := n0_; have HO135 := n1_; have HO138 := n2_; have HO142 := n3_; have HO146 := n4_; have HO150 := n5_; have HO153 := n6_; have HO158 := n7_; have HO164 := n8_; have HB := n9_; clear n0_ n1_ n2_ n3_ n4_ n5_ n6_ n7_ n8_ n9_; (try clear hb); (try clear hb2); (try clear hk); (try clear hi); (try clear ho0); (try clear A7)) | ((with_reducible refine gate_dst (N := 51) rfl ?_); (try (refine gate_guard (by rfl) ?_; dsimp only)); refine Kd.R_lit (Kd.int .u32) _ 22 ?hg (N := 51) ?hd (xs := ([16909060, 4278190208] : List Int)) (inner := [.int .u32 16909060, .int .u32 4278190208]) (ok := fun _ => True) (okp := fun _ => True) ?hr ?hp (fun _ hk => hk) trivial (Below.refl _ _) (Nat.le_refl _) (by simp) ?_; (case hd => rfl); (case hg => rfl); (case hr => first | (go_simp; done) | (go_simp; rfl) | (go_simp; simp [gm_u8, gm_u32, gm_tmod]; done)); (case hp => exact (Reps.one (show Kd.M (Kd.int .u32) _ _ _ 16909060 [.int .u32 16909060] from rfl) (Reps.one (show Kd.M (Kd.int .u32) _ _ _ 4278190208 [.int .u32 4278190208] from rfl) (Reps.none _ _)))); intro v166 w45 ho46 hb hg_ hnew_; clear hg_ hnew_; (first | rw [← Ny165.out] at ho46 | (simp only [Int.reduceToNat] at ho46; rw [← Ny165.out] at ho46)); have n0_ := Aside0.mk (Kd.R_below (by (with_reducible repeat (first | apply Kd.R_alloc | apply Kd.R_drewN | apply Kd.R_drew)); exact HO131.out) hb); have n1_ := Aside0.mk (Kd.R_elder' (by (with_reducible repeat (first | apply Kd.R_alloc | apply Kd.R_drewN | apply Kd.R_drew)); exact HO135.out) (Kd.R_base ho46) hb); have n2_ := Aside0.mk (Kd.R_below (by (with_reducible repeat (first | apply Kd.R_alloc | apply Kd.R_drewN | apply Kd.R_drew)); exact HO138.out) hb); have n3_ := Aside0.mk (Kd.R_elder' (by (with_reducible repeat (first | apply Kd.R_alloc | apply Kd.R_drewN | apply Kd.R_drew)); exact HO142.out) (Kd.R_base ho46) hb); have n4_ := Aside0.mk (Kd.R_below (by (with_reducible repeat (first | apply Kd.R_alloc | apply Kd.R_drewN | apply Kd.R_drew)); exact HO146.out) hb); have n5_ := Aside0.mk (Kd.R_below (by (with_reducible repeat (first | apply Kd.R_alloc | apply Kd.R_drewN | apply Kd.R_drew)); exact HO150.out) hb); have n6_ := Aside0.mk (Kd.R_below (by (with_reducible repeat (first | apply Kd.R_alloc | apply Kd.R_drewN | apply Kd.R_drew)); exact HO153.out) hb); have n7_ := Aside0.mk (Kd.R_below (by (with_reducible repeat (first | apply Kd.R_alloc | apply Kd.R_drewN | apply Kd.R_drew)); exact HO158.out) hb); have n8_ := Aside0.mk (Kd.R_below (by (with_reducible repeat (first | apply Kd.R_alloc | apply Kd.R_drewN | apply Kd.R_drew)); exact HO164.out) hb); have n9_ := Aside0.mk (Kd.R_lower (Kd.R_new' (Kd.R_new' ho46 (Kd.R_lt (by (with_reducible repeat (first | apply Kd.R_alloc | apply Kd.R_drewN | apply Kd.R_drew)); exact HO135.out))) (Kd.R_lt (by (with_reducible repeat (first | apply Kd.R_alloc | apply Kd.R_drewN | apply Kd.R_drew)); exact HO142.out))) (below_size (by repeat (first | (with_reducible first | exact HB.out | apply below_alloc | apply pw_below_drewN | apply below_drew1) | exact HB.out)))); have n10_ := Aside0.mk (below_step (by repeat (first | (with_reducible first | exact HB.out | apply below_alloc | apply pw_below_drewN | apply below_drew1) | exact HB.out)) hb); clear HO131; clear HO135; clear HO138; clear HO142; clear HO146; clear HO150; clear HO153; clear HO158; clear HO164; clear HB; have HO131 := n0_; have HO135 := n1_; have HO138 := n2_; have HO142 := n3_; have HO146 := n4_; have HO150 := n5_; have HO153 := n6_; have HO158 := n7_; have HO164 := n8_; have HO167 := n9_; have HB := n10_; clear n0_ n1_ n2_ n3_ n4_ n5_ n6_ n7_ n8_ n9_ n10_; clear hb ho46; obtain ⟨Ao47, co47, eo47⟩ := Kd.R_slice HO135.out; subst eo47; obtain ⟨Ao48, co48, eo48⟩ := Kd.R_slice HO167.out; subst eo48) | (go_at_call 13; (with_reducible refine (gatelineref01_SameWords.calls k _ _ t132 _ _ y165 true _ ?side1 ?side2 ?side3 ?side4 A9.out).mono ?_); (case side1 => repeat (first | exact (Kd.R_reads' HO135.out).2.2 | (with_reducible refine Kd.C_alloc ?_ _) | (with_reducible refine Kd.C_drewN ?_ _) | (with_reducible refine Kd.C_drew ?_))); (case side2 => exact (Kd.R_reads' HO135.out).2.1); (case side3 => repeat (first | exact (Kd.R_reads' HO167.out).2.2 | (with_reducible refine Kd.C_alloc ?_ _) | (with_reducible refine Kd.C_drewN ?_ _) | (with_reducible refine Kd.C_drew ?_))); (case side4 => exact (Kd.R_reads' HO167.out).2.1); rintro e w' ⟨rfl, ⟨nd, rfl⟩⟩; (try clear A9)) | ((with_reducible refine gate_dst (N := 65) rfl ?_); (try (refine gate_guard (by rfl) ?_; dsimp only)); refine Kd.R_lit (Kd.int .u8) _ 5 ?hg (N := 65) ?hd (xs := ([0, 1, 2] : List Int)) (inner := [.int .u8 0, .int .u8 1, .int .u8 2]) (ok := fun _ => True) (okp := fun _ => True) ?hr ?hp (fun _ hk => hk) trivial (Below.refl _ _) (Nat.le_refl _) (by simp) ?_; (case hd => rfl); (case hg => rfl); (case hr => first | (go_simp; done) | (go_simp; rfl) | (go_simp; simp [gm_u8, gm_u32, gm_tmod]; done)); (case hp => exact (Reps.one (show Kd.M (Kd.int .u8) _ _ _ 0 [.int .u8 0] from rfl) (Reps.one (show Kd.M (Kd.int .u8) _ _ _ 1 [.int .u8 1] from rfl) (Reps.one (show Kd.M (Kd.int .u8) _ _ _ 2 [.int .u8 2] from rfl) (Reps.none _ _))))); intro v170 w49 ho50 hb hg_ hnew_; clear hg_ hnew_; (first | rw [← Ny169.out] at ho50 | (simp only [Int.reduceToNat] at ho50; rw [← Ny169.out] at ho50)); have n0_ := Aside0.mk (Kd.R_elder' (by (with_reducible repeat (first | apply Kd.R_alloc | apply Kd.R_drewN | apply Kd.R_drew)); exact HO131.out) (Kd.R_base ho50) hb); have n1_ := Aside0.mk (Kd.R_below (by (with_reducible repeat (first | apply Kd.R_alloc | apply Kd.R_drewN | apply Kd.R_drew)); exact HO135.out) hb); have n2_ := Aside0.mk (Kd.R_elder' (by (with_reducible repeat (first | apply Kd.R_alloc | apply Kd.R_drewN | apply Kd.R_drew)); exact HO138.out) (Kd.R_base ho50) hb); have n3_ := Aside0.mk (Kd.R_below (by (with_reducible repeat (first | apply Kd.R_alloc | apply Kd.R_drewN | apply Kd.R_drew)); exact HO142.out) hb); have n4_ := Aside0.mk (Kd.R_elder' (by (with_reducible repeat (first | apply Kd.R_alloc | apply Kd.R_drewN | apply Kd.R_drew)); exact HO146.out) (Kd.R_base ho50) hb); have n5_ := Aside0.mk (Kd.R_elder' (by (with_reducible repeat (first | apply Kd.R_alloc | apply Kd.R_drewN | apply Kd.R_drew)); exact HO150.out) (Kd.R_base ho50) hb); have n6_ := Aside0.mk (Kd.R_elder' (by (with_reducible repeat (first | apply Kd.R_alloc | apply Kd.R_drewN | apply Kd.R_drew)); exact HO153.out) (Kd.R_base ho50) hb); have n7_ := Aside0.mk (Kd.R_elder' (by (with_reducible repeat (first | apply Kd.R_alloc | apply Kd.R_drewN | apply Kd.R_drew)); exact HO158.out) (Kd.R_base ho50) hb); have n8_ := Aside0.mk (Kd.R_elder' (by (with_reducible repeat (first | apply Kd.R_alloc | apply Kd.R_drewN | apply Kd.R_drew)); exact HO164.out) (Kd.R_base ho50) hb); have n9_ := Aside0.mk (Kd.R_below (by (with_reducible repeat (first | apply Kd.R_alloc | apply Kd.R_drewN | apply Kd.R_drew)); exact HO167.out) hb); have n10_ := Aside0.mk (Kd.R_lower (Kd.R_new' (Kd.R_new' (Kd.R_new' (Kd.R_new' (Kd.R_new' (Kd.R_new' (Kd.R_new' ho50 (Kd.R_lt (by (with_reducible repeat (first | apply Kd.R_alloc | apply Kd.R_drewN | apply Kd.R_drew)); exact HO131.out))) (Kd.R_lt (by (with_reducible repeat (first | apply Kd.R_alloc | apply Kd.R_drewN | apply Kd.R_drew)); exact HO138.out))) (Kd.R_lt (by (with_reducible repeat (first | apply Kd.R_alloc | apply Kd.R_drewN | apply Kd.R_drew)); exact HO146.out))) (Kd.R_lt (by (with_reducible repeat (first | apply Kd.R_alloc | apply Kd.R_drewN | apply Kd.R_drew)); exact HO150.out))) (Kd.R_lt (by (with_reducible repeat (first | apply Kd.R_alloc | apply Kd.R_drewN | apply Kd.R_drew)); exact HO153.out))) (Kd.R_lt (by (with_reducible repeat (first | apply Kd.R_alloc | apply Kd.R_drewN | apply Kd.R_drew)); exact HO158.out))) (Kd.R_lt (by (with_reducible repeat (first | apply Kd.R_alloc | apply Kd.R_drewN | apply Kd.R_drew)); exact HO164.out))) (below_size (by repeat (first | (with_reducible first | exact HB.out | apply below_alloc | apply pw_below_drewN | apply below_drew1) | exact HB.out)))); have n11_ := Aside0.mk (below_step (by repeat (first | (with_reducible first | exact HB.out | apply below_alloc | apply pw_below_drewN | apply below_drew1) | exact HB.out)) hb); clear HO131; clear HO135; clear HO138; clear HO142; clear HO146; clear HO150; clear HO153; clear HO158; clear HO164; clear HO167; clear HB; have HO131 := n0_; have HO135 := n1_; have HO138 := n2_; have HO142 := n3_; have HO146 := n4_; have HO150 := n5_; have HO153 := n6_; have HO158 := n7_; have HO164 := n8_; have HO167 := n9_; have HO171 := n10_; have HB := n11_; clear n0_ n1_ n2_ n3_ n4_ n5_ n6_ n7_ n8_ n9_ n10_ n11_; clear hb ho50; obtain ⟨Ao51, co51, eo51⟩ := Kd.R_slice HO146.out; subst eo51; obtain ⟨Ao52, co52, eo52⟩ := Kd.R_slice HO171.out; subst eo52) | (go_at_call 14; (with_reducible refine (gatelineref01_Same.calls k _ _ t143 _ _ y169 true _ ?side1 ?side2 ?side3 ?side4 A13.out).mono ?_); (case side1 => repeat (first | exact (Kd.R_reads' HO146.out).2.2 | (with_reducible refine Kd.C_alloc ?_ _) | (with_reducible refine Kd.C_drewN ?_ _) | (with_reducible refine Kd.C_drew ?_))); (case side2 => exact (Kd.R_reads' HO146.out).2.1); (case side3 => repeat (first | exact (Kd.R_reads' HO171.out).2.2 | (with_reducible refine Kd.C_alloc ?_ _) | (with_reducible refine Kd.C_drewN ?_ _) | (with_reducible refine Kd.C_drew ?_))); (case side4 => exact (Kd.R_reads' HO171.out).2.1); rintro e w' ⟨rfl, ⟨nd, rfl⟩⟩; (try clear A13)) | (go_at_call 9; (with_reducible refine (bits_Rot.calls 1 1 t173 _ A20.out).mono ?_); rintro e w' ⟨rfl, ⟨nd, rfl⟩⟩; (try clear A20)) | (go_at_call 9; (with_reducible refine (bits_Rot.calls 6 1 t174 _ A22.out).mono ?_); rintro e w' ⟨rfl, ⟨nd, rfl⟩⟩; (try clear A22)) | (go_at_call 9; (with_reducible refine (bits_Rot.calls 3 (-1) t175 _ A24.out).mono ?_); rintro e w' ⟨rfl, ⟨nd, rfl⟩⟩; (try clear A24)) | ((with_reducible refine gate_dst (N := 104) rfl ?_); (try (refine gate_guard (by rfl) ?_; dsimp only)); refine Kd.R_lit (Kd.int .u32) _ 22 ?hg (N := 104) ?hd (xs := ([16909060] : List Int)) (inner := [.int .u32 16909060]) (ok := fun _ => True) (okp := fun _ => True) ?hr ?hp (fun _ hk => hk) trivial (Below.refl _ _) (Nat.le_refl _) (by simp) ?_; (case hd => rfl); (case hg => rfl); (case hr => first | (go_simp; done) | (go_simp; rfl) | (go_simp; simp [gm_u8, gm_u32, gm_tmod]; done)); (case hp => exact (Reps.one (show Kd.M (Kd.int .u32) _ _ _ 16909060 [.int .u32 16909060] from rfl) (Reps.none _ _))); intro v177 w53 ho54 hb hg_ hnew_; clear hg_ hnew_; (first | rw [← Ny176.out] at ho54 | (simp only [Int.reduceToNat] at ho54; rw [← Ny176.out] at ho54)); have n0_ := Aside0.mk (Kd.R_below (by (with_reducible repeat (first | apply Kd.R_alloc | apply Kd.R_drewN | apply Kd.R_drew)); exact HO131.out) hb); have n1_ := Aside0.mk (Kd.R_elder' (by (with_reducible repeat (first | apply Kd.R_alloc | apply Kd.R_drewN | apply Kd.R_drew)); exact HO135.out) (Kd.R_base ho54) hb); have n2_ := Aside0.mk (Kd.R_below (by (with_reducible repeat (first | apply Kd.R_alloc | apply Kd.R_drewN | apply Kd.R_drew)); exact HO138.out) hb); have n3_ := Aside0.mk (Kd.R_elder' (by (with_reducible repeat (first | apply Kd.R_alloc | apply Kd.R_drewN | apply Kd.R_drew)); exact HO142.out) (Kd.R_base ho54) hb); have n4_ := Aside0.mk (Kd.R_below (by (with_reducible repeat (first | apply Kd.R_alloc | apply Kd.R_drewN | apply Kd.R_drew)); exact HO146.out) hb); have n5_ := Aside0.mk (Kd.R_below (by (with_reducible repeat (first | apply Kd.R_alloc | apply Kd.R_drewN | apply Kd.R_drew)); exact HO150.out) hb); have n6_ := Aside0.mk (Kd.R_below (by (with_reducible repeat (first | apply Kd.R_alloc | apply Kd.R_drewN | apply Kd.R_drew)); exact HO153.out) hb); have n7_ := Aside0.mk (Kd.R_below (by (with_reducible repeat (first | apply Kd.R_alloc | apply Kd.R_drewN | apply Kd.R_drew)); exact HO158.out) hb); have n8_ := Aside0.mk (Kd.R_below (by (with_reducible repeat (first | apply Kd.R_alloc | apply Kd.R_drewN | apply Kd.R_drew)); exact HO164.out) hb); have n9_ := Aside0.mk (Kd.R_elder' (by (with_reducible repeat (first | apply Kd.R_alloc | apply Kd.R_drewN | apply Kd.R_drew)); exact HO167.out) (Kd.R_base ho54) hb); have n10_ := Aside0.mk (Kd.R_below (by (with_reducible repeat (first | apply Kd.R_alloc | apply Kd.R_drewN | apply Kd.R_drew)); exact HO171.out) hb); have n11_ := Aside0.mk (Kd.R_lower (Kd.R_new' (Kd.R_new' (Kd.R_new' ho54 (Kd.R_lt (by (with_reducible repeat (first | apply Kd.R_alloc | apply Kd.R_drewN | apply Kd.R_drew)); exact HO135.out))) (Kd.R_lt (by (with_reducible repeat (first | apply Kd.R_alloc | apply Kd.R_drewN | apply Kd.R_drew)); exact HO142.out))) (Kd.R_lt (by (with_reducible repeat (first | apply Kd.R_alloc | apply Kd.R_drewN | apply Kd.R_drew)); exact HO167.out))) (below_size (by repeat (first | (with_reducible first | exact HB.out | apply below_alloc | apply pw_below_drewN | apply below_drew1) | exact HB.out)))); have n12_ := Aside0.mk (below_step (by repeat (first | (with_reducible first | exact HB.out | apply below_alloc | apply pw_below_drewN | apply below_drew1) | exact HB.out)) hb); clear HO131; clear HO135; clear HO138; clear HO142; clear HO146; clear HO150; clear HO153; clear HO158; clear HO164; clear HO167; clear HO171; clear HB; have HO131 := n0_; have HO135 := n1_; have HO138 := n2_; have HO142 := n3_; have HO146 := n4_; have HO150 := n5_; have HO153 := n6_; have HO158 := n7_; have HO164 := n8_; have HO167 := n9_; have HO171 := n10_; have HO178 := n11_; have HB := n12_; clear n0_ n1_ n2_ n3_ n4_ n5_ n6_ n7_ n8_ n9_ n10_ n11_ n12_; clear hb ho54; obtain ⟨Ao55, co55, eo55⟩ := Kd.R_slice HO178.out; subst eo55) | (go_at_call 15; (with_reducible refine (bits_Bytes.calls k _ _ y176 t179 _ ?side1 ?side2 A26.out).mono ?_); (case side1 => repeat (first | exact (Kd.R_reads' HO178.out).2.2 | (with_reducible refine Kd.C_alloc ?_ _) | (with_reducible refine Kd.C_drewN ?_ _) | (with_reducible refine Kd.C_drew ?_))); (case side2 => exact (Kd.R_reads' HO178.out).2.1); rintro e w56 ⟨v180, rfl, ho0, hb⟩; have n0_ := Aside0.mk (Kd.R_elder' (by (with_reducible repeat (first | apply Kd.R_alloc | apply Kd.R_drewN | apply Kd.R_drew)); exact HO131.out) (Kd.R_base ho0) hb); have n1_ := Aside0.mk (Kd.R_below (by (with_reducible repeat (first | apply Kd.R_alloc | apply Kd.R_drewN | apply Kd.R_drew)); exact HO135.out) hb); have n2_ := Aside0.mk (Kd.R_elder' (by (with_reducible repeat (first | apply Kd.R_alloc | apply Kd.R_drewN | apply Kd.R_drew)); exact HO138.out) (Kd.R_base ho0) hb); have n3_ := Aside0.mk (Kd.R_below (by (with_reducible repeat (first | apply Kd.R_alloc | apply Kd.R_drewN | apply Kd.R_drew)); exact HO142.out) hb); have n4_ := Aside0.mk (Kd.R_elder' (by (with_reducible repeat (first | apply Kd.R_alloc | apply Kd.R_drewN | apply Kd.R_drew)); exact HO146.out) (Kd.R_base ho0) hb); have n5_ := Aside0.mk (Kd.R_elder' (by (with_reducible repeat (first | apply Kd.R_alloc | apply Kd.R_drewN | apply Kd.R_drew)); exact HO150.out) (Kd.R_base ho0) hb); have n6_ := Aside0.mk (Kd.R_elder' (by (with_reducible repeat (first | apply Kd.R_alloc | apply Kd.R_drewN | apply Kd.R_drew)); exact HO153.out) (Kd.R_base ho0) hb); have n7_ := Aside0.mk (Kd.R_elder' (by (with_reducible repeat (first | apply Kd.R_alloc | apply Kd.R_drewN | apply Kd.R_drew)); exact HO158.out) (Kd.R_base ho0) hb); have n8_ := Aside0.mk (Kd.R_elder' (by (with_reducible repeat (first | apply Kd.R_alloc | apply Kd.R_drewN | apply Kd.R_drew)); exact HO164.out) (Kd.R_base ho0) hb); have n9_ := Aside0.mk (Kd.R_below (by (with_reducible repeat (first | apply Kd.R_alloc | apply Kd.R_drewN | apply Kd.R_drew)); exact HO167.out) hb); have n10_ := Aside0.mk (Kd.R_elder' (by (with_reducible repeat (first | apply Kd.R_alloc | apply Kd.R_drewN | apply Kd.R_drew)); exact HO171.out) (Kd.R_base ho0) hb); have n11_ := Aside0.mk (Kd.R_below (by (with_reducible repeat (first | apply Kd.R_alloc | apply Kd.R_drewN | apply Kd.R_drew)); exact HO178.out) hb); have n12_ := Aside0.mk (Kd.R_lower (Kd.R_new' (Kd.R_new' (Kd.R_new' (Kd.R_new' (Kd.R_new' (Kd.R_new' (Kd.R_new' (Kd.R_new' ho0 (Kd.R_lt (by (with_reducible repeat (first | apply Kd.R_alloc | apply Kd.R_drewN | apply Kd.R_drew)); exact HO131.out))) (Kd.R_lt (by (with_reducible repeat (first | apply Kd.R_alloc | apply Kd.R_drewN | apply Kd.R_drew)); exact HO138.out))) (Kd.R_lt (by (with_reducible repeat (first | apply Kd.R_alloc | apply Kd.R_drewN | apply Kd.R_drew)); exact HO146.out))) (Kd.R_lt (by (with_reducible repeat (first | apply Kd.R_alloc | apply Kd.R_drewN | apply Kd.R_drew)); exact HO150.out))) (Kd.R_lt (by (with_reducible repeat (first | apply Kd.R_alloc | apply Kd.R_drewN | apply Kd.R_drew)); exact HO153.out))) (Kd.R_lt (by (with_reducible repeat (first | apply Kd.R_alloc | apply Kd.R_drewN | apply Kd.R_drew)); exact HO158.out))) (Kd.R_lt (by (with_reducible repeat (first | apply Kd.R_alloc | apply Kd.R_drewN | apply Kd.R_drew)); exact HO164.out))) (Kd.R_lt (by (with_reducible repeat (first | apply Kd.R_alloc | apply Kd.R_drewN | apply Kd.R_drew)); exact HO171.out))) (below_size (by repeat (first | (with_reducible first | exact HB.out | apply below_alloc | apply pw_below_drewN | apply below_drew1) | exact HB.out)))); have n13_ := Aside0.mk (below_step (by repeat (first | (with_reducible first | exact HB.out | apply below_alloc | apply pw_below_drewN | apply below_drew1) | exact HB.out)) hb); clear HO131; clear HO135; clear HO138; clear HO142; clear HO146; clear HO150; clear HO153; clear HO158; clear HO164; clear HO167; clear HO171; clear HO178; clear HB; have HO131 := n0_; have HO135 := n1_; have HO138 := n2_; have HO142 := n3_; have HO146 := n4_; have HO150 := n5_; have HO153 := n6_; have HO158 := n7_; have HO164 := n8_; have HO167 := n9_; have HO171 := n10_; have HO178 := n11_; have HO181 := n12_; have HB := n13_; clear n0_ n1_ n2_ n3_ n4_ n5_ n6_ n7_ n8_ n9_ n10_ n11_ n12_ n13_; (try clear hb); (try clear hb2); (try clear hk); (try clear hi); (try clear ho0); (try clear A26)) | ((with_reducible refine gate_dst (N := 106) rfl ?_); (try (refine gate_guard (by rfl) ?_; dsimp only)); refine Kd.R_lit (Kd.int .u8) _ 5 ?hg (N := 106) ?hd (xs := ([1, 2, 3, 4] : List Int)) (inner := [.int .u8 1, .int .u8 2, .int .u8 3, .int .u8 4]) (ok := fun _ => True) (okp := fun _ => True) ?hr ?hp (fun _ hk => hk) trivial (Below.refl _ _) (Nat.le_refl _) (by simp) ?_; (case hd => rfl); (case hg => rfl); (case hr => first | (go_simp; done) | (go_simp; rfl) | (go_simp; simp [gm_u8, gm_u32, gm_tmod]; done)); (case hp => exact (Reps.one (show Kd.M (Kd.int .u8) _ _ _ 1 [.int .u8 1] from rfl) (Reps.one (show Kd.M (Kd.int .u8) _ _ _ 2 [.int .u8 2] from rfl) (Reps.one (show Kd.M (Kd.int .u8) _ _ _ 3 [.int .u8 3] from rfl) (Reps.one (show Kd.M (Kd.int .u8) _ _ _ 4 [.int .u8 4] from rfl) (Reps.none _ _)))))); intro v183 w57 ho58 hb hg_ hnew_; clear hg_ hnew_; (first | rw [← Ny182.out] at ho58 | (simp only [Int.reduceToNat] at ho58; rw [← Ny182.out] at ho58)); have n0_ := Aside0.mk (Kd.R_elder' (by (with_reducible repeat (first | apply Kd.R_alloc | apply Kd.R_drewN | apply Kd.R_drew)); exact HO131.out) (Kd.R_base ho58) hb); have n1_ := Aside0.mk (Kd.R_below (by (with_reducible repeat (first | apply Kd.R_alloc | apply Kd.R_drewN | apply Kd.R_drew)); exact HO135.out) hb); have n2_ := Aside0.mk (Kd.R_elder' (by (with_reducible repeat (first | apply Kd.R_alloc | apply Kd.R_drewN | apply Kd.R_drew)); exact HO138.out) (Kd.R_base ho58) hb); have n3_ := Aside0.mk (Kd.R_below (by (with_reducible repeat (first | apply Kd.R_alloc | apply Kd.R_drewN | apply Kd.R_drew)); exact HO142.out) hb); have n4_ := Aside0.mk (Kd.R_elder' (by (with_reducible repeat (first | apply Kd.R_alloc | apply Kd.R_drewN | apply Kd.R_drew)); exact HO146.out) (Kd.R_base ho58) hb); have n5_ := Aside0.mk (Kd.R_elder' (by (with_reducible repeat (first | apply Kd.R_alloc | apply Kd.R_drewN | apply Kd.R_drew)); exact HO150.out) (Kd.R_base ho58) hb); have n6_ := Aside0.mk (Kd.R_elder' (by (with_reducible repeat (first | apply Kd.R_alloc | apply Kd.R_drewN | apply Kd.R_drew)); exact HO153.out) (Kd.R_base ho58) hb); have n7_ := Aside0.mk (Kd.R_elder' (by (with_reducible repeat (first | apply Kd.R_alloc | apply Kd.R_drewN | apply Kd.R_drew)); exact HO158.out) (Kd.R_base ho58) hb); have n8_ := Aside0.mk (Kd.R_elder' (by (with_reducible repeat (first | apply Kd.R_alloc | apply Kd.R_drewN | apply Kd.R_drew)); exact HO164.out) (Kd.R_base ho58) hb); have n9_ := Aside0.mk (Kd.R_below (by (with_reducible repeat (first | apply Kd.R_alloc | apply Kd.R_drewN | apply Kd.R_drew)); exact HO167.out) hb); have n10_ := Aside0.mk (Kd.R_elder' (by (with_reducible repeat (first | apply Kd.R_alloc | apply Kd.R_drewN | apply Kd.R_drew)); exact HO171.out) (Kd.R_base ho58) hb); have n11_ := Aside0.mk (Kd.R_below (by (with_reducible repeat (first | apply Kd.R_alloc | apply Kd.R_drewN | apply Kd.R_drew)); exact HO178.out) hb); have n12_ := Aside0.mk (Kd.R_elder' (by (with_reducible repeat (first | apply Kd.R_alloc | apply Kd.R_drewN | apply Kd.R_drew)); exact HO181.out) (Kd.R_base ho58) hb); have n13_ := Aside0.mk (Kd.R_lower (Kd.R_new' (Kd.R_new' (Kd.R_new' (Kd.R_new' (Kd.R_new' (Kd.R_new' (Kd.R_new' (Kd.R_new' (Kd.R_new' ho58 (Kd.R_lt (by (with_reducible repeat (first | apply Kd.R_alloc | apply Kd.R_drewN | apply Kd.R_drew)); exact HO131.out))) (Kd.R_lt (by (with_reducible repeat (first | apply Kd.R_alloc | apply Kd.R_drewN | apply Kd.R_drew)); exact HO138.out))) (Kd.R_lt (by (with_reducible repeat (first | apply Kd.R_alloc | apply Kd.R_drewN | apply Kd.R_drew)); exact HO146.out))) (Kd.R_lt (by (with_reducible repeat (first | apply Kd.R_alloc | apply Kd.R_drewN | apply Kd.R_drew)); exact HO150.out))) (Kd.R_lt (by (with_reducible repeat (first | apply Kd.R_alloc | apply Kd.R_drewN | apply Kd.R_drew)); exact HO153.out))) (Kd.R_lt (by (with_reducible repeat (first | apply Kd.R_alloc | apply Kd.R_drewN | apply Kd.R_drew)); exact HO158.out))) (Kd.R_lt (by (with_reducible repeat (first | apply Kd.R_alloc | apply Kd.R_drewN | apply Kd.R_drew)); exact HO164.out))) (Kd.R_lt (by (with_reducible repeat (first | apply Kd.R_alloc | apply Kd.R_drewN | apply Kd.R_drew)); exact HO171.out))) (Kd.R_lt (by (with_reducible repeat (first | apply Kd.R_alloc | apply Kd.R_drewN | apply Kd.R_drew)); exact HO181.out))) (below_size (by repeat (first | (with_reducible first | exact HB.out | apply below_alloc | apply pw_below_drewN | apply below_drew1) | exact HB.out)))); have n14_ := Aside0.mk (below_step (by repeat (first | (with_reducible first | exact HB.out | apply below_alloc | apply pw_below_drewN | apply below_drew1) | exact HB.out)) hb); clear HO131; clear HO135; clear HO138; clear HO142; clear HO146; clear HO150; clear HO153; clear HO158; clear HO164; clear HO167; clear HO171; clear HO178; clear HO181; clear HB; have HO131 := n0_; have HO135 := n1_; have HO138 := n2_; have HO142 := n3_; have HO146 := n4_; have HO150 := n5_; have HO153 := n6_; have HO158 := n7_; have HO164 := n8_; have HO167 := n9_; have HO171 := n10_; have HO178 := n11_; have HO181 := n12_; have HO184 := n13_; have HB := n14_; clear n0_ n1_ n2_ n3_ n4_ n5_ n6_ n7_ n8_ n9_ n10_ n11_ n12_ n13_ n14_; clear hb ho58; obtain ⟨Ao59, co59, eo59⟩ := Kd.R_slice HO181.out; subst eo59; obtain ⟨Ao60, co60, eo60⟩ := Kd.R_slice HO184.out; subst eo60) | (go_at_call 14; (with_reducible refine (gatelineref01_Same.calls k _ _ t179 _ _ y182 t185 _ ?side1 ?side2 ?side3 ?side4 A27.out).mono ?_); (case side1 => repeat (first | exact (Kd.R_reads' HO181.out).2.2 | (with_reducible refine Kd.C_alloc ?_ _) | (with_reducible refine Kd.C_drewN ?_ _) | (with_reducible refine Kd.C_drew ?_))); (case side2 => exact (Kd.R_reads' HO181.out).2.1); (case side3 => repeat (first | exact (Kd.R_reads' HO184.out).2.2 | (with_reducible refine Kd.C_alloc ?_ _) | (with_reducible refine Kd.C_drewN ?_ _) | (with_reducible refine Kd.C_drew ?_))); (case side4 => exact (Kd.R_reads' HO184.out).2.1); rintro e w' ⟨rfl, ⟨nd, rfl⟩⟩; (try clear A27)))
                            go_ret
                            exact ⟨by first | rfl | (simp [errW_none, errW_some] <;> rfl) | (simp [*, errW_none, errW_some] <;> rfl), by repeat (first | (with_reducible first | exact HB.out | apply below_alloc | apply pw_below_drewN | apply below_drew1) | exact HB.out)⟩
                          · rw [if_neg c25] at H
                            exact absurd H (by simp)
                        · rw [if_neg c23] at H
                          exact absurd H (by simp)
                      · rw [if_neg c21] at H
                        exact absurd H (by simp)
                    · rw [if_neg c19] at H
                      exact absurd H (by simp)
                  · rw [if_neg c18] at H
                    exact absurd H (by simp)
                · rw [if_neg c17] at H
                  exact absurd H (by simp)
              · rw [if_neg c16] at H
                exact absurd H (by simp)
            · rw [if_neg c15] at H
              exact absurd H (by simp)
          · replace c14 := Bool.eq_false_iff.mpr c14
            subst c14
            have H1 : (none) = some r := by rw [if_neg (show ¬ (false = true) by decide)] at H; exact H
            clear H
            have H := H1
            clear H1
            exact absurd H (by simp)
        · rw [if_neg c12] at H
          exact absurd H (by simp)
      · rw [if_neg c11] at H
        exact absurd H (by simp)
    · replace c10 := Bool.eq_false_iff.mpr c10
      subst c10
      have H1 : (none) = some r := by rw [if_neg (show ¬ (false = true) by decide)] at H; exact H
      clear H
      have H := H1
      clear H1
      exact absurd H (by simp)
  · rw [if_neg c8] at H
    exact absurd H (by simp)

end Go.Proofs.Ytknpmcaiflheaaa.PL
