-- Written by the kit's print program with contracts that this session proved by hand given to it. Not trusted: Lean checks it.
import Derived.Test.YtekgienbhpknlaaPLx0
import Derived.Test.YtekgienbhpknlaaPLx3
import Derived.Test.YtekgienbhpknlaaPLx4
import Derived.Test.YtekgienbhpknlaaGMake
import Derived.Test.YtekgienbhpknlaaGTlvGet
namespace Go.Proofs.Ytekgienbhpknlaa.PL
open Go.RowKit Go.Proofs.YtekgienbhpknlaaW.PrintWords Go.Proofs.YtekgienbhpknlaaW.PrintLast Go.Proofs.YtekgienbhpknlaaW.PrintMore
attribute [local go_sem] max2_int min2_int max_two min_two max_three min_three max_four min_four   -- for this text's walks alone
set_option linter.unusedVariables false
set_option linter.unusedSimpArgs false

/-! ### gatelineref17_Get: function 22 -/
def gatelineref17_Get.l0 : Nat → List Int → List (S40) → Int → Int → Option ((List (S40)) × Int)
  | 0, _, _, _, _ => none
  | k + 1, x0, x4, x5, x6 => if x6 < (x0.length : Int) then (if (wrap64 (x6 + 2)) > (x0.length : Int) then (some (([] : List (S40)), 14)) else (if 0 ≤ x6 then (if (wrap64 (rd x0 x6)) ≤ x5 then (some (([] : List (S40)), 13)) else (if 0 ≤ (wrap64 (x6 + 1)) then (if (wrap64 (x6 + 1)) < (x0.length : Int) then (if (wrap64 ((wrap64 (x6 + 2)) + (wrap64 (rd x0 (wrap64 (x6 + 1)))))) > (x0.length : Int) then (some (([] : List (S40)), 14)) else (if 0 ≤ (wrap64 (x6 + 2)) then (if (wrap64 (x6 + 2)) ≤ (wrap64 ((wrap64 (x6 + 2)) + (wrap64 (rd x0 (wrap64 (x6 + 1)))))) then (if (wrap64 ((wrap64 (x6 + 2)) + (wrap64 (rd x0 (wrap64 (x6 + 1)))))) ≤ (x0.length : Int) then (if x4.length < 4398046511104 then (gatelineref17_Get.l0 k x0 (x4 ++ [(⟨wrap64 (rd x0 x6), ((x0.take ((wrap64 ((wrap64 (x6 + 2)) + (wrap64 (rd x0 (wrap64 (x6 + 1)))))) : Int).toNat).drop ((wrap64 (x6 + 2)) : Int).toNat)⟩ : S40)]) (wrap64 (rd x0 x6)) (wrap64 ((wrap64 (x6 + 2)) + (wrap64 (rd x0 (wrap64 (x6 + 1))))))) else (none)) else (none)) else (none)) else (none))) else (none)) else (none))) else (none))) else (some (x4, 0))
def gatelineref17_Get.f (k : Nat) (l0 : List Int) : Option ((List (S40)) × Int) := gatelineref17_Get.l0 k l0 (([] : List (S40))) 0 0
theorem gatelineref17_Get.mono_l : ∀ k, (∀ y0 y1 y2 y3, LeO (gatelineref17_Get.l0 k y0 y1 y2 y3) (gatelineref17_Get.l0 (k + 1) y0 y1 y2 y3))
  | 0 => fun _ _ _ _ r h => by simp [gatelineref17_Get.l0] at h
  | k + 1 => by
    have ih0 := gatelineref17_Get.mono_l k
    · intro y0 y1 y2 y3
      unfold gatelineref17_Get.l0
      repeat' first
      | (with_reducible exact ih0 _ _ _ _)
      | (with_reducible exact LeO.refl _)
      | (with_reducible exact LeO.none _)
      | (with_reducible refine LeO.ite ?_ ?_)
      | (with_reducible refine LeO.bind ?_ (fun _ => ?_))
      | exact ih0 _ _ _ _
      | exact LeO.none _
      | refine LeO.ite ?_ ?_
      | refine LeO.bind ?_ (fun _ => ?_)
theorem gatelineref17_Get.mono : ∀ a0 k, LeO (gatelineref17_Get.f k a0) (gatelineref17_Get.f (k + 1) a0) := by
  intro a0 k
  have ih0 := gatelineref17_Get.mono_l k
  unfold gatelineref17_Get.f
  repeat' first
      | (with_reducible exact ih0 _ _ _ _)
      | (with_reducible exact LeO.refl _)
      | (with_reducible exact LeO.none _)
      | (with_reducible refine LeO.ite ?_ ?_)
      | (with_reducible refine LeO.bind ?_ (fun _ => ?_))
      | exact ih0 _ _ _ _
      | exact LeO.none _
      | refine LeO.ite ?_ ?_
      | refine LeO.bind ?_ (fun _ => ?_)
set_option maxHeartbeats 8000000 in
set_option maxRecDepth 100000 in
theorem gatelineref17_Get.calls (k : Nat) (P0_ : Nat → Prop) (A0 : Option Addr) (c0 : Nat) (l0 : List Int) (r1 : List (S40)) (r2 : Int) (w : World) (hs0 : Kd.V (Kd.int .u8) 5 w w.heap.size (fun k_ => P0_ k_) (.slice A0 l0.length c0) l0) (h : gatelineref17_Get.f k l0 = some (r1, r2)) :
    Calls Try.prog 22 #[.slice A0 l0.length c0] w fun e w' => ∃ v0_ : Value, e = .returned (.tuple #[v0_, .int .i64 r2]) ∧ Kd.N k40 40 w' w.heap.size (fun k_ => (P0_ k_ ∨ w.heap.size ≤ k_)) v0_ r1 ∧ Below w.heap.size w w' := by
  have hu40 := Try.underlying40
  have HO0 := Aside0.mk (show Kd.V (Kd.int .u8) 5 w w.heap.size (fun k_ => (P0_ k_ ∨ w.heap.size ≤ k_)) (.slice A0 l0.length c0) l0 from Kd.V_mono hs0 (fun k_ hk => .inl hk))
  have HB := Aside0.mk (Below.refl w.heap.size w)
  have H : (gatelineref17_Get.l0 k l0 (([] : List (S40))) 0 0) = some (r1, r2) := h
  clear h
  obtain ⟨y247, hy247⟩ : ∃ y_ : List (S40), y_ = (([] : List (S40))) := ⟨_, rfl⟩
  replace H : (gatelineref17_Get.l0 k l0 y247 0 0) = some (r1, r2) := by first | (rw [hy247]; with_reducible exact H) | (have H2_ := (Option.bind_some _ _).symm.trans H; rw [hy247]; with_reducible exact H2_) | (have H2_ := (Option.bind_some _ _).symm.trans H; with_reducible exact H2_) | with_reducible exact H | (rw [hy247]; exact H) | exact H
  have Ny247 := Aside0.mk hy247
  clear hy247
  have H' := Aside0.mk H
  clear H
  go_enter Try.func22, Try.ntmps22
  go_wp2_with (first | ((with_reducible refine gate_dst (N := 8) rfl ?_); refine Kd.N_lit k40 _ 40 ?hg (N' := 8) ?hd (xs := ([] : List (S40))) (inner := []) (ok := (fun k_ => (P0_ k_ ∨ w.heap.size ≤ k_))) (okp := (fun k_ => (P0_ k_ ∨ w.heap.size ≤ k_))) ?hr ?hp (fun _ hk => hk) ((show ∀ k_, w.heap.size ≤ k_ → (fun k_ => (P0_ k_ ∨ w.heap.size ≤ k_)) k_ from fun k_ hk => (.inr (Nat.le_trans (below_size (by repeat (first | (with_reducible first | exact HB.out | apply below_alloc | apply pw_below_drewN | apply below_drew1) | exact HB.out))) hk))) _ (Nat.le_refl _)) (Below.refl _ _) (Nat.le_refl _) (by simp) ?_; (case hd => rfl); (case hg => rfl); (case hr => first | (go_simp; done) | (go_simp; rfl) | (go_simp; simp [gm_u8, gm_u32, gm_tmod]; done)); (case hp => exact (Reps.none _ _)); intro v248 w2 ho3 hb hg_ hnew_; clear hg_ hnew_; (first | rw [← Ny247.out] at ho3 | (simp only [Int.reduceToNat] at ho3; rw [← Ny247.out] at ho3)); have n0_ := Aside0.mk (Kd.V_elder' (by (with_reducible repeat (first | apply Kd.V_alloc | apply Kd.V_drewN | apply Kd.V_drew)); exact HO0.out) (Kd.N_base ho3) hb); have n1_ := Aside0.mk (Kd.N_lower ho3 (below_size (by repeat (first | (with_reducible first | exact HB.out | apply below_alloc | apply pw_below_drewN | apply below_drew1) | exact HB.out)))); have n2_ := Aside0.mk (below_step (by repeat (first | (with_reducible first | exact HB.out | apply below_alloc | apply pw_below_drewN | apply below_drew1) | exact HB.out)) hb); clear HO0; clear HB; have HO0 := n0_; have HO249 := n1_; have HB := n2_; clear n0_ n1_ n2_; clear hb ho3))
  go_loopg [4, 5, 6] k (fun kq v4 v5 v6 w' => ∃ (x4_1 : List (S40)) (x5_1 : Int) (x6_1 : Int), v5 = .int .i64 x5_1 ∧ v6 = .int .i64 x6_1 ∧ Aside0 (gatelineref17_Get.l0 kq l0 x4_1 x5_1 x6_1 = some (r1, r2)) ∧ Aside0 (kq ≤ k) ∧ Aside0 (Kd.V (Kd.int .u8) 5 w' w.heap.size (fun k_ => (P0_ k_ ∨ w.heap.size ≤ k_) ∧ some k_ ≠ (v4 : Value).ownBlock) (.slice A0 l0.length c0) l0) ∧ Aside0 (Kd.N k40 40 w' w.heap.size (fun k_ => (P0_ k_ ∨ w.heap.size ≤ k_)) v4 x4_1) ∧ Aside0 (Below w.heap.size w w'))
  case atStart => exact ⟨(y247), (0), (0), (by first | rfl | (simp; done) | (simp [*]; done)), (by first | rfl | (simp; done) | (simp [*]; done)), H', ⟨Nat.le_refl _⟩, ⟨by (with_reducible repeat (first | apply Kd.V_alloc | apply Kd.V_drewN | apply Kd.V_drew)); exact HO0.out⟩, ⟨by (with_reducible repeat (first | apply Kd.N_alloc | apply Kd.N_drewN | apply Kd.N_drew)); exact HO249.out⟩, ⟨by repeat (first | (with_reducible first | exact HB.out | apply below_alloc | apply pw_below_drewN | apply below_drew1) | exact HB.out)⟩⟩
  case round =>
    clear H'
    try clear c2
    try clear p2
    obtain ⟨x4_1, x5_1, x6_1, rfl, rfl, HA, HK1, HO_0, HO_4, HB⟩ := hrel
    cases gk with
    | zero => exact absurd HA.out (by simp [gatelineref17_Get.l0])
    | succ k1 =>
      have H := HA.out
      clear HA
      simp only [gatelineref17_Get.l0] at H
      by_cases c4 : x6_1 < (l0.length : Int)
      · rw [if_pos c4] at H
        have c4b0 : decide (x6_1 < (l0.length : Int)) = true := decide_eq_true c4
        clear c4
        by_cases c5 : (wrap64 (x6_1 + 2)) > (l0.length : Int)
        · rw [if_pos c5] at H
          have c5b0 : decide ((l0.length : Int) < (wrap64 (x6_1 + 2))) = true := decide_eq_true c5
          clear c5
          simp only [Option.some.injEq, Prod.mk.injEq] at H
          obtain ⟨rfl, rfl⟩ := H
          go_wp2
          go_ret2
          exact ⟨_, by first | rfl | (simp [errW_none, errW_some] <;> rfl) | (simp [*, errW_none, errW_some] <;> rfl), by first | exact Kd.S_nil _ _ _ _ _ | exact Kd.N_nil _ _ _ _ _ | exact Kd.V_nil _ _ _ _ _ | exact Kd.Q_nil _ _ _ _ _ | exact Kd.R_nil _ _ _ _ _, by repeat (first | (with_reducible first | exact HB.out | apply below_alloc | apply pw_below_drewN | apply below_drew1) | exact HB.out)⟩
        · rw [if_neg c5] at H
          have c5b0 : decide ((l0.length : Int) < (wrap64 (x6_1 + 2))) = false := decide_eq_false c5
          clear c5
          by_cases c6 : 0 ≤ x6_1
          · rw [if_pos c6] at H
            have c6b0 : decide (0 ≤ x6_1) = true := decide_eq_true c6
            clear c6
            by_cases c7 : (wrap64 (rd l0 x6_1)) ≤ x5_1
            · rw [if_pos c7] at H
              have c7b0 : decide ((wrap64 (rd l0 x6_1)) ≤ x5_1) = true := decide_eq_true c7
              clear c7
              simp only [Option.some.injEq, Prod.mk.injEq] at H
              obtain ⟨rfl, rfl⟩ := H
              have p250 : 0 ≤ (x6_1 : Int) := of_decide_eq_true (by first | (with_reducible assumption) | assumption)
              have q250 : x6_1 < (l0.length : Int) := of_decide_eq_true (by first | (with_reducible assumption) | assumption)
              obtain ⟨ad250, e250, hx250_0⟩ := Kd.at_int (Kd.V_reads' HO_0.out).2.2 x6_1 p250 q250
              cases e250
              replace p250 := eq_true p250
              replace q250 := eq_true q250
              go_wp2
              go_ret2
              exact ⟨_, by first | rfl | (simp [errW_none, errW_some] <;> rfl) | (simp [*, errW_none, errW_some] <;> rfl), by first | exact Kd.S_nil _ _ _ _ _ | exact Kd.N_nil _ _ _ _ _ | exact Kd.V_nil _ _ _ _ _ | exact Kd.Q_nil _ _ _ _ _ | exact Kd.R_nil _ _ _ _ _, by repeat (first | (with_reducible first | exact HB.out | apply below_alloc | apply pw_below_drewN | apply below_drew1) | exact HB.out)⟩
            · rw [if_neg c7] at H
              have c7b0 : decide ((wrap64 (rd l0 x6_1)) ≤ x5_1) = false := decide_eq_false c7
              clear c7
              obtain ⟨ji8, hji8⟩ : ∃ j_ : Int, (wrap64 (x6_1 + 1)) = j_ := ⟨_, rfl⟩
              replace H : (if 0 ≤ (ji8) then (if (ji8) < (l0.length : Int) then (if (wrap64 ((wrap64 (x6_1 + 2)) + (wrap64 (rd l0 (ji8))))) > (l0.length : Int) then (some (([] : List (S40)), 14)) else (if 0 ≤ (wrap64 (x6_1 + 2)) then (if (wrap64 (x6_1 + 2)) ≤ (wrap64 ((wrap64 (x6_1 + 2)) + (wrap64 (rd l0 (ji8))))) then (if (wrap64 ((wrap64 (x6_1 + 2)) + (wrap64 (rd l0 (ji8))))) ≤ (l0.length : Int) then (if x4_1.length < 4398046511104 then (gatelineref17_Get.l0 k1 l0 (x4_1 ++ [(⟨wrap64 (rd l0 x6_1), ((l0.take ((wrap64 ((wrap64 (x6_1 + 2)) + (wrap64 (rd l0 (ji8))))) : Int).toNat).drop ((wrap64 (x6_1 + 2)) : Int).toNat)⟩ : S40)]) (wrap64 (rd l0 x6_1)) (wrap64 ((wrap64 (x6_1 + 2)) + (wrap64 (rd l0 (ji8)))))) else (none)) else (none)) else (none)) else (none))) else (none)) else (none)) = some (r1, r2) := by first | (rw [hji8] at H; exact H) | (simp only [hji8] at H ⊢; exact H)
              have hji8w : (IntKind.i64.wrap (x6_1 + 1)) = ji8 := (i64_w _).trans hji8
              by_cases c9 : 0 ≤ (ji8)
              · rw [if_pos c9] at H
                have c9b0 : decide (0 ≤ (ji8)) = true := decide_eq_true c9
                clear c9
                by_cases c10 : (ji8) < (l0.length : Int)
                · rw [if_pos c10] at H
                  have c10b0 : decide ((ji8) < (l0.length : Int)) = true := decide_eq_true c10
                  clear c10
                  by_cases c11 : (wrap64 ((wrap64 (x6_1 + 2)) + (wrap64 (rd l0 (ji8))))) > (l0.length : Int)
                  · rw [if_pos c11] at H
                    have c11b0 : decide ((l0.length : Int) < (wrap64 ((wrap64 (x6_1 + 2)) + (wrap64 (rd l0 (ji8)))))) = true := decide_eq_true c11
                    clear c11
                    simp only [Option.some.injEq, Prod.mk.injEq] at H
                    obtain ⟨rfl, rfl⟩ := H
                    have p250 : 0 ≤ (x6_1 : Int) := of_decide_eq_true (by first | (with_reducible assumption) | assumption)
                    have q250 : x6_1 < (l0.length : Int) := of_decide_eq_true (by first | (with_reducible assumption) | assumption)
                    obtain ⟨ad250, e250, hx250_0⟩ := Kd.at_int (Kd.V_reads' HO_0.out).2.2 x6_1 p250 q250
                    cases e250
                    replace p250 := eq_true p250
                    replace q250 := eq_true q250
                    have p251 : 0 ≤ (x6_1 : Int) := of_decide_eq_true (by first | (with_reducible assumption) | assumption)
                    have q251 : x6_1 < (l0.length : Int) := of_decide_eq_true (by first | (with_reducible assumption) | assumption)
                    obtain ⟨ad251, e251, hx251_0⟩ := Kd.at_int (Kd.V_reads' HO_0.out).2.2 x6_1 p251 q251
                    obtain rfl : ad250 = ad251 := (by injection e251)
                    replace p251 := eq_true p251
                    replace q251 := eq_true q251
                    have p252 : 0 ≤ ((ji8) : Int) := of_decide_eq_true (by first | (with_reducible assumption) | assumption)
                    have q252 : (ji8) < (l0.length : Int) := of_decide_eq_true (by first | (with_reducible assumption) | assumption)
                    obtain ⟨ad252, e252, hx252_0⟩ := Kd.at_int (Kd.V_reads' HO_0.out).2.2 (ji8) p252 q252
                    obtain rfl : ad250 = ad252 := (by injection e252)
                    replace p252 := eq_true p252
                    replace q252 := eq_true q252
                    go_wp2
                    go_ret2
                    exact ⟨_, by first | rfl | (simp [errW_none, errW_some] <;> rfl) | (simp only [← hji8]; first | rfl | (simp [errW_none, errW_some] <;> rfl)) | (simp [*, errW_none, errW_some] <;> rfl), by first | exact Kd.S_nil _ _ _ _ _ | exact Kd.N_nil _ _ _ _ _ | exact Kd.V_nil _ _ _ _ _ | exact Kd.Q_nil _ _ _ _ _ | exact Kd.R_nil _ _ _ _ _, by repeat (first | (with_reducible first | exact HB.out | apply below_alloc | apply pw_below_drewN | apply below_drew1) | exact HB.out)⟩
                  · rw [if_neg c11] at H
                    have c11b0 : decide ((l0.length : Int) < (wrap64 ((wrap64 (x6_1 + 2)) + (wrap64 (rd l0 (ji8)))))) = false := decide_eq_false c11
                    clear c11
                    obtain ⟨ji12, hji12⟩ : ∃ j_ : Int, (wrap64 (x6_1 + 2)) = j_ := ⟨_, rfl⟩
                    replace H : (if 0 ≤ (ji12) then (if (ji12) ≤ (wrap64 ((ji12) + (wrap64 (rd l0 (ji8))))) then (if (wrap64 ((ji12) + (wrap64 (rd l0 (ji8))))) ≤ (l0.length : Int) then (if x4_1.length < 4398046511104 then (gatelineref17_Get.l0 k1 l0 (x4_1 ++ [(⟨wrap64 (rd l0 x6_1), ((l0.take ((wrap64 ((ji12) + (wrap64 (rd l0 (ji8))))) : Int).toNat).drop ((ji12) : Int).toNat)⟩ : S40)]) (wrap64 (rd l0 x6_1)) (wrap64 ((ji12) + (wrap64 (rd l0 (ji8)))))) else (none)) else (none)) else (none)) else (none)) = some (r1, r2) := by first | (rw [hji12] at H; exact H) | (simp only [hji12] at H ⊢; exact H)
                    (try rw [hji12] at c5b0)
                    (try rw [hji12] at c11b0)
                    have hji12w : (IntKind.i64.wrap (x6_1 + 2)) = ji12 := (i64_w _).trans hji12
                    by_cases c13 : 0 ≤ (ji12)
                    · rw [if_pos c13] at H
                      have c13b0 := eq_true c13
                      have c13b1 : decide (0 ≤ (ji12)) = true := decide_eq_true c13
                      clear c13
                      by_cases c14 : (ji12) ≤ (wrap64 ((ji12) + (wrap64 (rd l0 (ji8)))))
                      · rw [if_pos c14] at H
                        have c14b0 := eq_true c14
                        have c14b1 : decide ((ji12) ≤ (wrap64 ((ji12) + (wrap64 (rd l0 (ji8)))))) = true := decide_eq_true c14
                        by_cases c15 : (wrap64 ((ji12) + (wrap64 (rd l0 (ji8))))) ≤ (l0.length : Int)
                        · rw [if_pos c15] at H
                          have c15b0 := eq_true c15
                          have c15b1 : decide ((wrap64 ((ji12) + (wrap64 (rd l0 (ji8))))) ≤ (l0.length : Int)) = true := decide_eq_true c15
                          obtain ⟨y253, hy253⟩ : ∃ y_ : List Int, y_ = ((l0.take ((wrap64 ((ji12) + (wrap64 (rd l0 (ji8))))) : Int).toNat).drop ((ji12) : Int).toNat) := ⟨_, rfl⟩
                          replace H : (if x4_1.length < 4398046511104 then (gatelineref17_Get.l0 k1 l0 (x4_1 ++ [(⟨wrap64 (rd l0 x6_1), y253⟩ : S40)]) (wrap64 (rd l0 x6_1)) (wrap64 ((ji12) + (wrap64 (rd l0 (ji8)))))) else (none)) = some (r1, r2) := by first | (rw [hy253]; with_reducible exact H) | (have H2_ := (Option.bind_some _ _).symm.trans H; rw [hy253]; with_reducible exact H2_) | (have H2_ := (Option.bind_some _ _).symm.trans H; with_reducible exact H2_) | with_reducible exact H | (rw [hy253]; exact H) | exact H
                          have Ny253 := Aside0.mk hy253
                          clear hy253
                          by_cases c16 : x4_1.length < 4398046511104
                          · rw [if_pos c16] at H
                            have LMc16 := Aside0.mk c16
                            clear c16
                            obtain ⟨y258, hy258⟩ : ∃ y_ : List (S40), y_ = (x4_1 ++ [(⟨wrap64 (rd l0 x6_1), y253⟩ : S40)]) := ⟨_, rfl⟩
                            replace H : (gatelineref17_Get.l0 k1 l0 y258 (wrap64 (rd l0 x6_1)) (wrap64 ((ji12) + (wrap64 (rd l0 (ji8)))))) = some (r1, r2) := by first | (rw [hy258]; with_reducible exact H) | (have H2_ := (Option.bind_some _ _).symm.trans H; rw [hy258]; with_reducible exact H2_) | (have H2_ := (Option.bind_some _ _).symm.trans H; with_reducible exact H2_) | with_reducible exact H | (rw [hy258]; exact H) | exact H
                            have Ny258 := Aside0.mk hy258
                            clear hy258
                            have H' := Aside0.mk H
                            clear H
                            have p250 : 0 ≤ (x6_1 : Int) := of_decide_eq_true (by first | (with_reducible assumption) | assumption)
                            have q250 : x6_1 < (l0.length : Int) := of_decide_eq_true (by first | (with_reducible assumption) | assumption)
                            obtain ⟨ad250, e250, hx250_0⟩ := Kd.at_int (Kd.V_reads' HO_0.out).2.2 x6_1 p250 q250
                            cases e250
                            replace p250 := eq_true p250
                            replace q250 := eq_true q250
                            have p251 : 0 ≤ (x6_1 : Int) := of_decide_eq_true (by first | (with_reducible assumption) | assumption)
                            have q251 : x6_1 < (l0.length : Int) := of_decide_eq_true (by first | (with_reducible assumption) | assumption)
                            obtain ⟨ad251, e251, hx251_0⟩ := Kd.at_int (Kd.V_reads' HO_0.out).2.2 x6_1 p251 q251
                            obtain rfl : ad250 = ad251 := (by injection e251)
                            replace p251 := eq_true p251
                            replace q251 := eq_true q251
                            have p252 : 0 ≤ ((ji8) : Int) := of_decide_eq_true (by first | (with_reducible assumption) | assumption)
                            have q252 : (ji8) < (l0.length : Int) := of_decide_eq_true (by first | (with_reducible assumption) | assumption)
                            obtain ⟨ad252, e252, hx252_0⟩ := Kd.at_int (Kd.V_reads' HO_0.out).2.2 (ji8) p252 q252
                            obtain rfl : ad250 = ad252 := (by injection e252)
                            replace p252 := eq_true p252
                            replace q252 := eq_true q252
                            have q17 : ((wrap64 ((ji12) + (wrap64 (rd l0 (ji8))))) : Int) ≤ ((l0.length : Int) : Int) := of_decide_eq_true (by first | (with_reducible assumption) | assumption)
                            obtain ⟨i017, hi017, _, hsz17, _⟩ := info_parts info5
                            have hroom17 : l0.length ≤ c0 := (Kd.V_reads' HO_0.out).2.1
                            have hC17 : Kd.F (Kd.int .u8) _ _ (some ad250) l0.length l0 := (Kd.V_at (base := w.heap.size) HO_0.out).2.2
                            have ql17 : ((ji12) : Int) ≤ ((wrap64 ((ji12) + (wrap64 (rd l0 (ji8))))) : Int) := of_decide_eq_true (by first | (with_reducible assumption) | assumption)
                            have q017 : (0 : Int) ≤ ((ji12) : Int) := of_decide_eq_true (by first | (with_reducible assumption) | assumption)
                            have hcut17 := cut_mid (P := Try.prog) 24 5 .i64 .i64 Try.underlying24 hi017 1 hsz17 (some ad250) l0.length c0 (ji12) (wrap64 ((ji12) + (wrap64 (rd l0 (ji8))))) q017 ql17 q17 hroom17
                            have hr17 := Kd.F_mid (lo := ((ji12) : Int).toNat) (hi := ((wrap64 ((ji12) + (wrap64 (rd l0 (ji8))))) : Int).toNat) (c := c0) hC17 (by omega) (by omega) hroom17
                            obtain ⟨A17, hA17⟩ : ∃ A1, A1 = (if c0 = ((ji12) : Int).toNat then (some ad250) else ((some ad250) : Option Addr).map (·.add (((ji12) : Int).toNat * 1))) := ⟨_, rfl⟩
                            obtain ⟨c17, hc17⟩ : ∃ c1, c1 = c0 - ((ji12) : Int).toNat := ⟨_, rfl⟩
                            have hy17 : y253.length = ((wrap64 ((ji12) + (wrap64 (rd l0 (ji8))))) : Int).toNat - ((ji12) : Int).toNat := (by rw [Ny253.out, List.length_drop, List.length_take] <;> omega)
                            rw [show ((l0).take ((wrap64 ((ji12) + (wrap64 (rd l0 (ji8))))) : Int).toNat).drop ((ji12) : Int).toNat = y253 from Ny253.out.symm] at hr17
                            replace hr17 : Kd.F (Kd.int .u8) _ _ A17 y253.length y253 := (by rw [hA17]; exact hr17)
                            rw [← hy17, ← hA17, ← hc17] at hcut17
                            have HO257 := Aside0.mk (show Kd.V (Kd.int .u8) 5 _ w.heap.size _ (.slice A17 y253.length c17) y253 from Kd.V_mk (by rw [hy17, hc17]; exact Nat.sub_le_sub_right (Nat.le_trans (by omega) hroom17) _) hr17)
                            have HC257 := Aside0.mk (show y253.length ≤ c17 from by rw [hy17, hc17]; exact Nat.sub_le_sub_right (Nat.le_trans (by omega) hroom17) _)
                            clear hr17 hC17 hroom17 hi017 hsz17 hc17
                            have KY17 := Aside0.mk hy17
                            have KA17 := Aside0.mk hA17
                            clear hy17 hA17
                            replace q17 := eq_true q17
                            go_wp2_with (first | ((with_reducible refine gate_builtin (b := .append) (xs := #[.tmp 43, .tmp 54]) rfl ?_); at_builtin; refine Kd.N_append k40 (w0 := w) w.heap.size rfl (.tmp 43) (.tmp 54) 22 40 (.agg #[(.int .i64 0), (.slice none 0 0)]) 32 rfl Try.underlying22 info40 rfl (by decide) (by omega) u4 x4_1 (⟨wrap64 (rd l0 x6_1), y253⟩ : S40) [.int .i64 (wrap64 (rd l0 x6_1)), .slice A17 y253.length c17] (fun k_ => (P0_ k_ ∨ w.heap.size ≤ k_)) (fun k_ => ((fun k_ => (P0_ k_ ∨ w.heap.size ≤ k_))) k_ ∧ some k_ ≠ (u4 : Value).ownBlock) rfl rfl ?aP (fun _ hk => hk) ?aF ?aO ?aB ?aS ?aL ?_; (case aP => exact (k40_mkF _ _ (⟨wrap64 (rd l0 x6_1), y253⟩ : S40) (Kd.V_reads' (Kd.V_mono (ok' := (fun k_ => ((fun k_ => (P0_ k_ ∨ w.heap.size ≤ k_))) k_ ∧ some k_ ≠ (u4 : Value).ownBlock)) (HO257.out) (fun k_ hk => ⟨hk.1, hk.2⟩))).2.1 (Kd.V_F (Kd.V_mono (ok' := (fun k_ => ((fun k_ => (P0_ k_ ∨ w.heap.size ≤ k_))) k_ ∧ some k_ ≠ (u4 : Value).ownBlock)) (HO257.out) (fun k_ hk => ⟨hk.1, hk.2⟩))))); (case aB => exact (by repeat (first | (with_reducible first | exact HB.out | apply below_alloc | apply pw_below_drewN | apply below_drew1) | exact HB.out))); (case aF => exact (fun k_ hk => (.inr (Nat.le_trans (below_size (by repeat (first | (with_reducible first | exact HB.out | apply below_alloc | apply pw_below_drewN | apply below_drew1) | exact HB.out))) hk)))); (case aO => exact (by (with_reducible repeat (first | apply Kd.N_alloc | apply Kd.N_drewN | apply Kd.N_drew)); exact HO_4.out)); (case aS => exact (below_size (by repeat (first | (with_reducible first | exact HB.out | apply below_alloc | apply pw_below_drewN | apply below_drew1) | exact HB.out)))); (case aL => have := LMc16.out; omega); intro v259 w18 ho hb hg hat; rw [← Ny258.out] at ho; have n0_ := Aside0.mk (Kd.V_afterv (ok := (fun k_ => (P0_ k_ ∨ w.heap.size ≤ k_))) (by (with_reducible repeat (first | apply Kd.V_alloc | apply Kd.V_drewN | apply Kd.V_drew)); exact HO_0.out) hg hat); have n1_ := Aside0.mk (Kd.V_afterv (ok := (fun k_ => (P0_ k_ ∨ w.heap.size ≤ k_))) (by (with_reducible repeat (first | apply Kd.V_alloc | apply Kd.V_drewN | apply Kd.V_drew)); exact HO257.out) hg hat); have n2_ := Aside0.mk (hb); have n3_ := Aside0.mk (ho); clear HO_0; clear HO257; clear HB; clear HO_4; have HO_0 := n0_; have HO257 := n1_; have HB := n2_; have HO260 := n3_; clear n0_ n1_ n2_ n3_; clear ho hb hg hat))
                            go_roundg k1
                            case measure => have := HK1.out; omega
                            case rel => exact ⟨(y258), (wrap64 (rd l0 x6_1)), (wrap64 ((ji12) + (wrap64 (rd l0 (ji8))))), (by first | rfl | (simp; done) | (simp [*]; done)), (by first | rfl | (simp; done) | (simp only [← hji8, ← hji12] <;> (first | rfl | simp)) | (simp [*]; done)), H', ⟨by have := HK1.out; omega⟩, ⟨by (with_reducible repeat (first | apply Kd.V_alloc | apply Kd.V_drewN | apply Kd.V_drew)); exact HO_0.out⟩, ⟨by (with_reducible repeat (first | apply Kd.N_alloc | apply Kd.N_drewN | apply Kd.N_drew)); exact HO260.out⟩, ⟨by repeat (first | (with_reducible first | exact HB.out | apply below_alloc | apply pw_below_drewN | apply below_drew1) | exact HB.out)⟩⟩
                          · rw [if_neg c16] at H
                            exact absurd H (by simp)
                        · rw [if_neg c15] at H
                          exact absurd H (by simp)
                      · rw [if_neg c14] at H
                        exact absurd H (by simp)
                    · rw [if_neg c13] at H
                      exact absurd H (by simp)
                · rw [if_neg c10] at H
                  exact absurd H (by simp)
              · rw [if_neg c9] at H
                exact absurd H (by simp)
          · rw [if_neg c6] at H
            exact absurd H (by simp)
      · rw [if_neg c4] at H
        have c4b0 : decide (x6_1 < (l0.length : Int)) = false := decide_eq_false c4
        clear c4
        simp only [Option.some.injEq, Prod.mk.injEq] at H
        obtain ⟨rfl, rfl⟩ := H
        go_wp2
        go_ret2
        exact ⟨_, by first | rfl | (simp [errW_none, errW_some] <;> rfl) | (simp [*, errW_none, errW_some] <;> rfl), by (with_reducible repeat (first | apply Kd.N_alloc | apply Kd.N_drewN | apply Kd.N_drew)); exact HO_4.out, by repeat (first | (with_reducible first | exact HB.out | apply below_alloc | apply pw_below_drewN | apply below_drew1) | exact HB.out)⟩

/-! ### gatelinelaw17_TlvGets: function 4 -/
def gatelinelaw17_TlvGets.f (k : Nat) (l0 : List Int) : Option (Bool) := if (l0.length : Int) > 3000 then (some true) else ((tlv_Get.f l0).bind fun bt261 => ((gatelineref17_Get.f k l0).bind fun bt265 => ((gatelinelaw17_listed.f k).bind fun t269 => (if t269 = true then ((gatelineref17_Same.f k bt261.1 bt265.1).bind fun t270 => (if t270 = true then (some (bt261.2 == bt265.2)) else (some false))) else (some false)))))
theorem gatelinelaw17_TlvGets.mono : ∀ a0 k, LeO (gatelinelaw17_TlvGets.f k a0) (gatelinelaw17_TlvGets.f (k + 1) a0) := by
  intro a0 k
  unfold gatelinelaw17_TlvGets.f
  repeat' first
      | (with_reducible exact gatelinelaw17_listed.mono _)
      | (with_reducible exact gatelineref17_Get.mono _ _)
      | (with_reducible exact gatelineref17_Same.mono _ _ _)
      | (with_reducible exact LeO.refl _)
      | (with_reducible exact LeO.none _)
      | (with_reducible refine LeO.ite ?_ ?_)
      | (with_reducible refine LeO.bind ?_ (fun _ => ?_))
      | exact gatelinelaw17_listed.mono _
      | exact gatelineref17_Get.mono _ _
      | exact gatelineref17_Same.mono _ _ _
      | exact LeO.none _
      | refine LeO.ite ?_ ?_
      | refine LeO.bind ?_ (fun _ => ?_)
set_option maxHeartbeats 8000000 in
set_option maxRecDepth 100000 in
theorem gatelinelaw17_TlvGets.calls (k : Nat) (A0 : Option Addr) (c0 : Nat) (l0 : List Int) (r : Bool) (w : World) (hr0 : Kd.C (Kd.int .u8) w A0 l0.length l0) (hc0 : l0.length ≤ c0) (h : gatelinelaw17_TlvGets.f k l0 = some r) :
    Calls Try.prog 4 #[.slice A0 l0.length c0] w fun e w' => e = .returned (.bool r) ∧ Below w.heap.size w w' := by
  have HR0 := Aside0.mk hr0
  have HC0 := Aside0.mk hc0
  clear hr0 hc0
  have HB := Aside0.mk (Below.refl w.heap.size w)
  have H : (if (l0.length : Int) > 3000 then (some true) else ((tlv_Get.f l0).bind fun bt261 => ((gatelineref17_Get.f k l0).bind fun bt265 => ((gatelinelaw17_listed.f k).bind fun t269 => (if t269 = true then ((gatelineref17_Same.f k bt261.1 bt265.1).bind fun t270 => (if t270 = true then (some (bt261.2 == bt265.2)) else (some false))) else (some false)))))) = some r := h
  clear h
  by_cases c2 : (l0.length : Int) > 3000
  · rw [if_pos c2] at H
    have c2b0 : decide (3000 < (l0.length : Int)) = true := decide_eq_true c2
    have c2b1 : decide (3000 < l0.length) = true := decide_eq_true (by omega)
    clear c2
    obtain rfl := Option.some.inj H
    go_enter Try.func4, Try.ntmps4
    go_wp2
    go_ret
    exact ⟨by first | rfl | (simp [errW_none, errW_some] <;> rfl) | (simp [*, errW_none, errW_some] <;> rfl), by repeat (first | (with_reducible first | exact HB.out | apply below_alloc | apply pw_below_drewN | apply below_drew1) | exact HB.out)⟩
  · rw [if_neg c2] at H
    have c2b0 : decide (3000 < (l0.length : Int)) = false := decide_eq_false c2
    have c2b1 : decide (3000 < l0.length) = false := decide_eq_false (by omega)
    clear c2
    replace H := Option.bind_eq_some_iff.mp H
    obtain ⟨⟨t261, t264⟩, A30, H⟩ := H
    replace H : ((gatelineref17_Get.f k l0).bind fun bt265 => ((gatelinelaw17_listed.f k).bind fun t269 => (if t269 = true then ((gatelineref17_Same.f k t261 bt265.1).bind fun t270 => (if t270 = true then (some (t264 == bt265.2)) else (some false))) else (some false)))) = some r := H
    have A3 := Aside0.mk A30
    clear A30
    replace H := Option.bind_eq_some_iff.mp H
    obtain ⟨⟨t265, t268⟩, A40, H⟩ := H
    replace H : ((gatelinelaw17_listed.f k).bind fun t269 => (if t269 = true then ((gatelineref17_Same.f k t261 t265).bind fun t270 => (if t270 = true then (some (t264 == t268)) else (some false))) else (some false))) = some r := H
    have A4 := Aside0.mk A40
    clear A40
    replace H := Option.bind_eq_some_iff.mp H
    obtain ⟨t269, A50, H⟩ := H
    replace H : (if t269 = true then ((gatelineref17_Same.f k t261 t265).bind fun t270 => (if t270 = true then (some (t264 == t268)) else (some false))) else (some false)) = some r := H
    have A5 := Aside0.mk A50
    clear A50
    by_cases c6 : t269 = true
    · subst c6
      have H1 : ((gatelineref17_Same.f k t261 t265).bind fun t270 => (if t270 = true then (some (t264 == t268)) else (some false))) = some r := by rw [if_pos rfl] at H; exact H
      clear H
      have H := H1
      clear H1
      replace H := Option.bind_eq_some_iff.mp H
      obtain ⟨t270, A70, H⟩ := H
      replace H : (if t270 = true then (some (t264 == t268)) else (some false)) = some r := H
      have A7 := Aside0.mk A70
      clear A70
      by_cases c8 : t270 = true
      · subst c8
        have H1 : (some (t264 == t268)) = some r := by rw [if_pos rfl] at H; exact H
        clear H
        have H := H1
        clear H1
        obtain rfl := Option.some.inj H
        go_enter Try.func4, Try.ntmps4
        go_wp2_with (first | ((with_reducible refine gate_callee (f := 21) rfl ?_); refine goesL_ (some 12) rfl rfl Try.func21 (by kernel_rfl) rfl #[.slice A0 l0.length c0] rfl (by (try simp only [List.map_toArray, List.map_cons, List.map_nil]); first | done | rfl | (simp only [List.length_drop, List.length_take]; rfl)) ?_; (with_reducible refine (tlv_Get.calls (fun k_ => k_ < w.heap.size) _ _ l0 t261 t264 _ ?side1 A3.out).mono ?_); (case side1 => exact Kd.V_mk HC0.out (Kd.F_below (Kd.C_F (Kd.heap_int .u8) HR0.out) (by repeat (first | (with_reducible first | exact HB.out | apply below_alloc | apply pw_below_drewN | apply below_drew1) | exact HB.out)))); rintro e w9 ⟨v262, rfl, ho0, hb⟩; refine ⟨_, rfl, ?_⟩; have n0_ := Aside0.mk (Kd.N_lower (Kd.N_mono (ok' := fun k_ => True) ho0 (fun k_ hk_ => trivial)) (below_size (by repeat (first | (with_reducible first | exact HB.out | apply below_alloc | apply pw_below_drewN | apply below_drew1) | exact HB.out)))); have n1_ := Aside0.mk (below_step (by repeat (first | (with_reducible first | exact HB.out | apply below_alloc | apply pw_below_drewN | apply below_drew1) | exact HB.out)) hb); clear HB; have HO263 := n0_; have HB := n1_; clear n0_ n1_; (try clear hb); (try clear hb2); (try clear hk); (try clear hi); (try clear ho0); (try clear A3)) | ((with_reducible refine gate_callee (f := 22) rfl ?_); refine goesL_ (some 17) rfl rfl Try.func22 (by kernel_rfl) rfl #[.slice A0 l0.length c0] rfl (by (try simp only [List.map_toArray, List.map_cons, List.map_nil]); first | done | rfl | (simp only [List.length_drop, List.length_take]; rfl)) ?_; (with_reducible refine (gatelineref17_Get.calls k (fun k_ => k_ < w.heap.size) _ _ l0 t265 t268 _ ?side1 A4.out).mono ?_); (case side1 => exact Kd.V_mk HC0.out (Kd.F_below (Kd.C_F (Kd.heap_int .u8) HR0.out) (by repeat (first | (with_reducible first | exact HB.out | apply below_alloc | apply pw_below_drewN | apply below_drew1) | exact HB.out)))); rintro e w10 ⟨v266, rfl, ho0, hb⟩; refine ⟨_, rfl, ?_⟩; have n0_ := Aside0.mk (Kd.N_elder' (by (with_reducible repeat (first | apply Kd.N_alloc | apply Kd.N_drewN | apply Kd.N_drew)); exact HO263.out) (Kd.N_base ho0) hb); have n1_ := Aside0.mk (Kd.N_lower (Kd.N_mono (ok' := fun k_ => some k_ ≠ (v262 : Value).ownBlock) ho0 (fun k_ hk_ => Or.elim hk_ (fun hs_ => fun e_ => Nat.not_le.2 hs_ (Kd.N_base HO263.out k_ e_.symm)) (fun hn_ => (Kd.fresh' (Kd.N_lt (by (with_reducible repeat (first | apply Kd.N_alloc | apply Kd.N_drewN | apply Kd.N_drew)); exact HO263.out)) k_ hn_)))) (below_size (by repeat (first | (with_reducible first | exact HB.out | apply below_alloc | apply pw_below_drewN | apply below_drew1) | exact HB.out)))); have n2_ := Aside0.mk (below_step (by repeat (first | (with_reducible first | exact HB.out | apply below_alloc | apply pw_below_drewN | apply below_drew1) | exact HB.out)) hb); clear HO263; clear HB; have HO263 := n0_; have HO267 := n1_; have HB := n2_; clear n0_ n1_ n2_; (try clear hb); (try clear hb2); (try clear hk); (try clear hi); (try clear ho0); (try clear A4)) | ((with_reducible refine gate_callee (f := 17) rfl ?_); refine goesL_ (some 20) rfl rfl Try.func17 (by kernel_rfl) rfl #[] rfl (by (try simp only [List.map_toArray, List.map_cons, List.map_nil]); first | done | rfl | (simp only [List.length_drop, List.length_take]; rfl)) ?_; (with_reducible refine (gatelinelaw17_listed.calls k  true _ A5.out).mono ?_); rintro e w11 ⟨rfl, hb⟩; refine ⟨_, rfl, ?_⟩; have n0_ := Aside0.mk (Kd.N_below (by (with_reducible repeat (first | apply Kd.N_alloc | apply Kd.N_drewN | apply Kd.N_drew)); exact HO263.out) hb); have n1_ := Aside0.mk (Kd.N_below (by (with_reducible repeat (first | apply Kd.N_alloc | apply Kd.N_drewN | apply Kd.N_drew)); exact HO267.out) hb); have n2_ := Aside0.mk (below_step (by repeat (first | (with_reducible first | exact HB.out | apply below_alloc | apply pw_below_drewN | apply below_drew1) | exact HB.out)) hb); clear HO263; clear HO267; clear HB; have HO263 := n0_; have HO267 := n1_; have HB := n2_; clear n0_ n1_ n2_; (try clear hb); (try clear hb2); (try clear hk); (try clear hi); (try clear A5); obtain ⟨Ao12, co12, eo12⟩ := Kd.N_slice HO263.out; subst eo12; obtain ⟨Ao13, co13, eo13⟩ := Kd.N_slice HO267.out; subst eo13) | (go_at_call 23; (with_reducible refine (gatelineref17_Same.calls k _ _ t261 _ _ t265 true _ ?side1 ?side2 ?side3 ?side4 A7.out).mono ?_); (case side1 => repeat (first | exact (Kd.N_reads' HO263.out).2.2 | (with_reducible refine Kd.C_alloc ?_ _) | (with_reducible refine Kd.C_drewN ?_ _) | (with_reducible refine Kd.C_drew ?_))); (case side2 => exact (Kd.N_reads' HO263.out).2.1); (case side3 => repeat (first | exact (Kd.N_reads' HO267.out).2.2 | (with_reducible refine Kd.C_alloc ?_ _) | (with_reducible refine Kd.C_drewN ?_ _) | (with_reducible refine Kd.C_drew ?_))); (case side4 => exact (Kd.N_reads' HO267.out).2.1); rintro e w' ⟨rfl, ⟨nd, rfl⟩⟩; (try clear A7)))
        go_ret
        exact ⟨by first | rfl | (simp [errW_none, errW_some] <;> rfl) | (simp [*, errW_none, errW_some] <;> rfl), by repeat (first | (with_reducible first | exact HB.out | apply below_alloc | apply pw_below_drewN | apply below_drew1) | exact HB.out)⟩
      · replace c8 := Bool.eq_false_iff.mpr c8
        subst c8
        have H1 : (some false) = some r := by rw [if_neg (show ¬ (false = true) by decide)] at H; exact H
        clear H
        have H := H1
        clear H1
        obtain rfl := Option.some.inj H
        go_enter Try.func4, Try.ntmps4
        go_wp2_with (first | ((with_reducible refine gate_callee (f := 21) rfl ?_); refine goesL_ (some 12) rfl rfl Try.func21 (by kernel_rfl) rfl #[.slice A0 l0.length c0] rfl (by (try simp only [List.map_toArray, List.map_cons, List.map_nil]); first | done | rfl | (simp only [List.length_drop, List.length_take]; rfl)) ?_; (with_reducible refine (tlv_Get.calls (fun k_ => k_ < w.heap.size) _ _ l0 t261 t264 _ ?side1 A3.out).mono ?_); (case side1 => exact Kd.V_mk HC0.out (Kd.F_below (Kd.C_F (Kd.heap_int .u8) HR0.out) (by repeat (first | (with_reducible first | exact HB.out | apply below_alloc | apply pw_below_drewN | apply below_drew1) | exact HB.out)))); rintro e w14 ⟨v262, rfl, ho0, hb⟩; refine ⟨_, rfl, ?_⟩; have n0_ := Aside0.mk (Kd.N_lower (Kd.N_mono (ok' := fun k_ => True) ho0 (fun k_ hk_ => trivial)) (below_size (by repeat (first | (with_reducible first | exact HB.out | apply below_alloc | apply pw_below_drewN | apply below_drew1) | exact HB.out)))); have n1_ := Aside0.mk (below_step (by repeat (first | (with_reducible first | exact HB.out | apply below_alloc | apply pw_below_drewN | apply below_drew1) | exact HB.out)) hb); clear HB; have HO263 := n0_; have HB := n1_; clear n0_ n1_; (try clear hb); (try clear hb2); (try clear hk); (try clear hi); (try clear ho0); (try clear A3)) | ((with_reducible refine gate_callee (f := 22) rfl ?_); refine goesL_ (some 17) rfl rfl Try.func22 (by kernel_rfl) rfl #[.slice A0 l0.length c0] rfl (by (try simp only [List.map_toArray, List.map_cons, List.map_nil]); first | done | rfl | (simp only [List.length_drop, List.length_take]; rfl)) ?_; (with_reducible refine (gatelineref17_Get.calls k (fun k_ => k_ < w.heap.size) _ _ l0 t265 t268 _ ?side1 A4.out).mono ?_); (case side1 => exact Kd.V_mk HC0.out (Kd.F_below (Kd.C_F (Kd.heap_int .u8) HR0.out) (by repeat (first | (with_reducible first | exact HB.out | apply below_alloc | apply pw_below_drewN | apply below_drew1) | exact HB.out)))); rintro e w15 ⟨v266, rfl, ho0, hb⟩; refine ⟨_, rfl, ?_⟩; have n0_ := Aside0.mk (Kd.N_elder' (by (with_reducible repeat (first | apply Kd.N_alloc | apply Kd.N_drewN | apply Kd.N_drew)); exact HO263.out) (Kd.N_base ho0) hb); have n1_ := Aside0.mk (Kd.N_lower (Kd.N_mono (ok' := fun k_ => some k_ ≠ (v262 : Value).ownBlock) ho0 (fun k_ hk_ => Or.elim hk_ (fun hs_ => fun e_ => Nat.not_le.2 hs_ (Kd.N_base HO263.out k_ e_.symm)) (fun hn_ => (Kd.fresh' (Kd.N_lt (by (with_reducible repeat (first | apply Kd.N_alloc | apply Kd.N_drewN | apply Kd.N_drew)); exact HO263.out)) k_ hn_)))) (below_size (by repeat (first | (with_reducible first | exact HB.out | apply below_alloc | apply pw_below_drewN | apply below_drew1) | exact HB.out)))); have n2_ := Aside0.mk (below_step (by repeat (first | (with_reducible first | exact HB.out | apply below_alloc | apply pw_below_drewN | apply below_drew1) | exact HB.out)) hb); clear HO263; clear HB; have HO263 := n0_; have HO267 := n1_; have HB := n2_; clear n0_ n1_ n2_; (try clear hb); (try clear hb2); (try clear hk); (try clear hi); (try clear ho0); (try clear A4)) | ((with_reducible refine gate_callee (f := 17) rfl ?_); refine goesL_ (some 20) rfl rfl Try.func17 (by kernel_rfl) rfl #[] rfl (by (try simp only [List.map_toArray, List.map_cons, List.map_nil]); first | done | rfl | (simp only [List.length_drop, List.length_take]; rfl)) ?_; (with_reducible refine (gatelinelaw17_listed.calls k  true _ A5.out).mono ?_); rintro e w16 ⟨rfl, hb⟩; refine ⟨_, rfl, ?_⟩; have n0_ := Aside0.mk (Kd.N_below (by (with_reducible repeat (first | apply Kd.N_alloc | apply Kd.N_drewN | apply Kd.N_drew)); exact HO263.out) hb); have n1_ := Aside0.mk (Kd.N_below (by (with_reducible repeat (first | apply Kd.N_alloc | apply Kd.N_drewN | apply Kd.N_drew)); exact HO267.out) hb); have n2_ := Aside0.mk (below_step (by repeat (first | (with_reducible first | exact HB.out | apply below_alloc | apply pw_below_drewN | apply below_drew1) | exact HB.out)) hb); clear HO263; clear HO267; clear HB; have HO263 := n0_; have HO267 := n1_; have HB := n2_; clear n0_ n1_ n2_; (try clear hb); (try clear hb2); (try clear hk); (try clear hi); (try clear A5); obtain ⟨Ao17, co17, eo17⟩ := Kd.N_slice HO263.out; subst eo17; obtain ⟨Ao18, co18, eo18⟩ := Kd.N_slice HO267.out; subst eo18) | (go_at_call 23; (with_reducible refine (gatelineref17_Same.calls k _ _ t261 _ _ t265 false _ ?side1 ?side2 ?side3 ?side4 A7.out).mono ?_); (case side1 => repeat (first | exact (Kd.N_reads' HO263.out).2.2 | (with_reducible refine Kd.C_alloc ?_ _) | (with_reducible refine Kd.C_drewN ?_ _) | (with_reducible refine Kd.C_drew ?_))); (case side2 => exact (Kd.N_reads' HO263.out).2.1); (case side3 => repeat (first | exact (Kd.N_reads' HO267.out).2.2 | (with_reducible refine Kd.C_alloc ?_ _) | (with_reducible refine Kd.C_drewN ?_ _) | (with_reducible refine Kd.C_drew ?_))); (case side4 => exact (Kd.N_reads' HO267.out).2.1); rintro e w' ⟨rfl, ⟨nd, rfl⟩⟩; (try clear A7)))
        go_ret
        exact ⟨by first | rfl | (simp [errW_none, errW_some] <;> rfl) | (simp [*, errW_none, errW_some] <;> rfl), by repeat (first | (with_reducible first | exact HB.out | apply below_alloc | apply pw_below_drewN | apply below_drew1) | exact HB.out)⟩
    · replace c6 := Bool.eq_false_iff.mpr c6
      subst c6
      have H1 : (some false) = some r := by rw [if_neg (show ¬ (false = true) by decide)] at H; exact H
      clear H
      have H := H1
      clear H1
      obtain rfl := Option.some.inj H
      go_enter Try.func4, Try.ntmps4
      go_wp2_with (first | ((with_reducible refine gate_callee (f := 21) rfl ?_); refine goesL_ (some 12) rfl rfl Try.func21 (by kernel_rfl) rfl #[.slice A0 l0.length c0] rfl (by (try simp only [List.map_toArray, List.map_cons, List.map_nil]); first | done | rfl | (simp only [List.length_drop, List.length_take]; rfl)) ?_; (with_reducible refine (tlv_Get.calls (fun k_ => k_ < w.heap.size) _ _ l0 t261 t264 _ ?side1 A3.out).mono ?_); (case side1 => exact Kd.V_mk HC0.out (Kd.F_below (Kd.C_F (Kd.heap_int .u8) HR0.out) (by repeat (first | (with_reducible first | exact HB.out | apply below_alloc | apply pw_below_drewN | apply below_drew1) | exact HB.out)))); rintro e w19 ⟨v262, rfl, ho0, hb⟩; refine ⟨_, rfl, ?_⟩; have n0_ := Aside0.mk (Kd.N_lower (Kd.N_mono (ok' := fun k_ => True) ho0 (fun k_ hk_ => trivial)) (below_size (by repeat (first | (with_reducible first | exact HB.out | apply below_alloc | apply pw_below_drewN | apply below_drew1) | exact HB.out)))); have n1_ := Aside0.mk (below_step (by repeat (first | (with_reducible first | exact HB.out | apply below_alloc | apply pw_below_drewN | apply below_drew1) | exact HB.out)) hb); clear HB; have HO263 := n0_; have HB := n1_; clear n0_ n1_; (try clear hb); (try clear hb2); (try clear hk); (try clear hi); (try clear ho0); (try clear A3)) | ((with_reducible refine gate_callee (f := 22) rfl ?_); refine goesL_ (some 17) rfl rfl Try.func22 (by kernel_rfl) rfl #[.slice A0 l0.length c0] rfl (by (try simp only [List.map_toArray, List.map_cons, List.map_nil]); first | done | rfl | (simp only [List.length_drop, List.length_take]; rfl)) ?_; (with_reducible refine (gatelineref17_Get.calls k (fun k_ => k_ < w.heap.size) _ _ l0 t265 t268 _ ?side1 A4.out).mono ?_); (case side1 => exact Kd.V_mk HC0.out (Kd.F_below (Kd.C_F (Kd.heap_int .u8) HR0.out) (by repeat (first | (with_reducible first | exact HB.out | apply below_alloc | apply pw_below_drewN | apply below_drew1) | exact HB.out)))); rintro e w20 ⟨v266, rfl, ho0, hb⟩; refine ⟨_, rfl, ?_⟩; have n0_ := Aside0.mk (Kd.N_elder' (by (with_reducible repeat (first | apply Kd.N_alloc | apply Kd.N_drewN | apply Kd.N_drew)); exact HO263.out) (Kd.N_base ho0) hb); have n1_ := Aside0.mk (Kd.N_lower (Kd.N_mono (ok' := fun k_ => some k_ ≠ (v262 : Value).ownBlock) ho0 (fun k_ hk_ => Or.elim hk_ (fun hs_ => fun e_ => Nat.not_le.2 hs_ (Kd.N_base HO263.out k_ e_.symm)) (fun hn_ => (Kd.fresh' (Kd.N_lt (by (with_reducible repeat (first | apply Kd.N_alloc | apply Kd.N_drewN | apply Kd.N_drew)); exact HO263.out)) k_ hn_)))) (below_size (by repeat (first | (with_reducible first | exact HB.out | apply below_alloc | apply pw_below_drewN | apply below_drew1) | exact HB.out)))); have n2_ := Aside0.mk (below_step (by repeat (first | (with_reducible first | exact HB.out | apply below_alloc | apply pw_below_drewN | apply below_drew1) | exact HB.out)) hb); clear HO263; clear HB; have HO263 := n0_; have HO267 := n1_; have HB := n2_; clear n0_ n1_ n2_; (try clear hb); (try clear hb2); (try clear hk); (try clear hi); (try clear ho0); (try clear A4)) | ((with_reducible refine gate_callee (f := 17) rfl ?_); refine goesL_ (some 20) rfl rfl Try.func17 (by kernel_rfl) rfl #[] rfl (by (try simp only [List.map_toArray, List.map_cons, List.map_nil]); first | done | rfl | (simp only [List.length_drop, List.length_take]; rfl)) ?_; (with_reducible refine (gatelinelaw17_listed.calls k  false _ A5.out).mono ?_); rintro e w21 ⟨rfl, hb⟩; refine ⟨_, rfl, ?_⟩; have n0_ := Aside0.mk (Kd.N_below (by (with_reducible repeat (first | apply Kd.N_alloc | apply Kd.N_drewN | apply Kd.N_drew)); exact HO263.out) hb); have n1_ := Aside0.mk (Kd.N_below (by (with_reducible repeat (first | apply Kd.N_alloc | apply Kd.N_drewN | apply Kd.N_drew)); exact HO267.out) hb); have n2_ := Aside0.mk (below_step (by repeat (first | (with_reducible first | exact HB.out | apply below_alloc | apply pw_below_drewN | apply below_drew1) | exact HB.out)) hb); clear HO263; clear HO267; clear HB; have HO263 := n0_; have HO267 := n1_; have HB := n2_; clear n0_ n1_ n2_; (try clear hb); (try clear hb2); (try clear hk); (try clear hi); (try clear A5)))
      go_ret
      exact ⟨by first | rfl | (simp [errW_none, errW_some] <;> rfl) | (simp [*, errW_none, errW_some] <;> rfl), by repeat (first | (with_reducible first | exact HB.out | apply below_alloc | apply pw_below_drewN | apply below_drew1) | exact HB.out)⟩

/-- THE ONE PURE STATEMENT of gatelinelaw17_TlvGets: yours. -/
def gatelinelaw17_TlvGets.Pure : Prop := ∀ (l0 : List Int), l0.length ≤ maxLen → l0.length * 1 ≤ 140737488351232 → (∀ x ∈ l0, (Lit.int .u8 x).wf = true) → ∃ k, gatelinelaw17_TlvGets.f k l0 = some true
theorem gatelinelaw17_TlvGets.walk (P : gatelinelaw17_TlvGets.Pure) (a0 : Option Addr) (len0 cap0 : Nat) (z0 : List Int) (w : World) (w0 : (a0 = none ∧ len0 = 0 ∧ cap0 = 0 ∧ z0 = []) ∨ ∃ x, a0 = some x ∧ len0 ≤ cap0 ∧ cap0 ≤ maxLen ∧ z0.length = cap0 ∧ (∀ i, i < z0.length → w.cell? (x.add i) = some (.int .u8 (z0.getD i 0))) ∧ ∀ n ∈ z0, (Lit.int .u8 n).wf = true) (y0 : len0 * 1 ≤ 140737488351232) :
    Calls Try.prog 4 #[.slice a0 len0 cap0] w fun e w' => e = .returned (.bool true) ∧ Below w.heap.size w w' := by
  obtain ⟨l0, rfl, hr0, hm0, hw0, hc0⟩ := ReadsInt.ofRowC w0
  obtain ⟨k, h⟩ := P l0 hm0 y0 hw0
  refine (gatelinelaw17_TlvGets.calls k _ _ l0 true w (Kd.C_of_reads (d := (0 : Int)) (h1 := fun _ => rfl) hr0) hc0 h).mono ?_
  rintro e w' ⟨rfl, hd⟩
  exact ⟨rfl, hd⟩

/-! ### gatelineref17_Number: function 25 -/
def gatelineref17_Number.l0 : Nat → Int → List Int → Option (List Int × Int)
  | 0, _, _ => none
  | k + 1, x0, x4 => if x0 > 0 then ((some (([(Int.tmod x0 256) % 256] : List Int) : List Int)).bind fun y274 => (if y274.length + x4.length < 140737488355328 then (gatelineref17_Number.l0 k (wrap64 (Int.tdiv x0 256)) (y274 ++ x4)) else (none))) else (some (x4, 0))
def gatelineref17_Number.f (k : Nat) (a0 : Int) : Option (List Int × Int) := if a0 < 0 then (some (([] : List Int), 1)) else (gatelineref17_Number.l0 k a0 (([] : List Int)))
theorem gatelineref17_Number.mono_l : ∀ k, (∀ y0 y1, LeO (gatelineref17_Number.l0 k y0 y1) (gatelineref17_Number.l0 (k + 1) y0 y1))
  | 0 => fun _ _ r h => by simp [gatelineref17_Number.l0] at h
  | k + 1 => by
    have ih0 := gatelineref17_Number.mono_l k
    · intro y0 y1
      unfold gatelineref17_Number.l0
      repeat' first
      | (with_reducible exact ih0 _ _)
      | (with_reducible exact LeO.refl _)
      | (with_reducible exact LeO.none _)
      | (with_reducible refine LeO.ite ?_ ?_)
      | (with_reducible refine LeO.bind ?_ (fun _ => ?_))
      | exact ih0 _ _
      | exact LeO.none _
      | refine LeO.ite ?_ ?_
      | refine LeO.bind ?_ (fun _ => ?_)
theorem gatelineref17_Number.mono : ∀ a0 k, LeO (gatelineref17_Number.f k a0) (gatelineref17_Number.f (k + 1) a0) := by
  intro a0 k
  have ih0 := gatelineref17_Number.mono_l k
  unfold gatelineref17_Number.f
  repeat' first
      | (with_reducible exact ih0 _ _)
      | (with_reducible exact LeO.refl _)
      | (with_reducible exact LeO.none _)
      | (with_reducible refine LeO.ite ?_ ?_)
      | (with_reducible refine LeO.bind ?_ (fun _ => ?_))
      | exact ih0 _ _
      | exact LeO.none _
      | refine LeO.ite ?_ ?_
      | refine LeO.bind ?_ (fun _ => ?_)
set_option maxHeartbeats 8000000 in
set_option maxRecDepth 100000 in
theorem gatelineref17_Number.calls (k : Nat) (a0 : Int) (r1 : List Int) (r2 : Int) (w : World) (h : gatelineref17_Number.f k a0 = some (r1, r2)) :
    Calls Try.prog 25 #[.int .i64 a0] w fun e w' => ∃ v0_ : Value, e = .returned (.tuple #[v0_, .int .i64 r2]) ∧ Kd.R (Kd.int .u8) 5 w' w.heap.size (fun _ => True) v0_ r1 ∧ Below w.heap.size w w' := by
  have HB := Aside0.mk (Below.refl w.heap.size w)
  have H : (if a0 < 0 then (some (([] : List Int), 1)) else (gatelineref17_Number.l0 k a0 (([] : List Int)))) = some (r1, r2) := h
  clear h
  by_cases c2 : a0 < 0
  · rw [if_pos c2] at H
    have c2b0 : decide (a0 < 0) = true := decide_eq_true c2
    clear c2
    simp only [Option.some.injEq, Prod.mk.injEq] at H
    obtain ⟨rfl, rfl⟩ := H
    go_enter Try.func25, Try.ntmps25
    go_wp2
    go_ret2
    exact ⟨_, by first | rfl | (simp [errW_none, errW_some] <;> rfl) | (simp [*, errW_none, errW_some] <;> rfl), by first | exact Kd.R_nil _ _ _ _ _ | exact Kd.N_nil _ _ _ _ _ | exact Kd.V_nil _ _ _ _ _ | exact Kd.Q_nil _ _ _ _ _ | exact Kd.S_nil _ _ _ _ _, by repeat (first | (with_reducible first | exact HB.out | apply below_alloc | apply pw_below_drewN | apply below_drew1) | exact HB.out)⟩
  · rw [if_neg c2] at H
    have c2b0 : decide (a0 < 0) = false := decide_eq_false c2
    clear c2
    obtain ⟨y271, hy271⟩ : ∃ y_ : List Int, y_ = (([] : List Int)) := ⟨_, rfl⟩
    replace H : (gatelineref17_Number.l0 k a0 y271) = some (r1, r2) := by first | (rw [hy271]; with_reducible exact H) | (have H2_ := (Option.bind_some _ _).symm.trans H; rw [hy271]; with_reducible exact H2_) | (have H2_ := (Option.bind_some _ _).symm.trans H; with_reducible exact H2_) | with_reducible exact H | (rw [hy271]; exact H) | exact H
    have Ny271 := Aside0.mk hy271
    clear hy271
    have H' := Aside0.mk H
    clear H
    go_enter Try.func25, Try.ntmps25
    go_wp2_with (first | ((with_reducible refine gate_dst (N := 8) rfl ?_); refine Kd.R_lit (Kd.int .u8) _ 5 ?hg (N := 8) ?hd (xs := ([] : List Int)) (inner := []) (ok := fun _ => True) (okp := fun _ => True) ?hr ?hp (fun _ hk => hk) trivial (Below.refl _ _) (Nat.le_refl _) (by simp) ?_; (case hd => rfl); (case hg => rfl); (case hr => first | (go_simp; done) | (go_simp; rfl) | (go_simp; simp [gm_u8, gm_u32, gm_tmod]; done)); (case hp => exact (Reps.none _ _)); intro v272 w3 ho4 hb hg_ hnew_; clear hg_ hnew_; (first | rw [← Ny271.out] at ho4 | (simp only [Int.reduceToNat] at ho4; rw [← Ny271.out] at ho4)); have n0_ := Aside0.mk (Kd.R_lower ho4 (below_size (by repeat (first | (with_reducible first | exact HB.out | apply below_alloc | apply pw_below_drewN | apply below_drew1) | exact HB.out)))); have n1_ := Aside0.mk (below_step (by repeat (first | (with_reducible first | exact HB.out | apply below_alloc | apply pw_below_drewN | apply below_drew1) | exact HB.out)) hb); clear HB; have HO273 := n0_; have HB := n1_; clear n0_ n1_; clear hb ho4))
    go_loopg [0, 4] k (fun kq v0 v4 w' => ∃ (x0_1 : Int) (x4_1 : List Int), v0 = .int .i64 x0_1 ∧ Aside0 (gatelineref17_Number.l0 kq x0_1 x4_1 = some (r1, r2)) ∧ Aside0 (kq ≤ k) ∧ Aside0 (Kd.R (Kd.int .u8) 5 w' w.heap.size (fun _ => True) v4 x4_1) ∧ Aside0 (Below w.heap.size w w'))
    case atStart => exact ⟨(a0), (y271), (by first | rfl | (simp; done) | (simp [*]; done)), H', ⟨Nat.le_refl _⟩, ⟨by (with_reducible repeat (first | apply Kd.R_alloc | apply Kd.R_drewN | apply Kd.R_drew)); exact HO273.out⟩, ⟨by repeat (first | (with_reducible first | exact HB.out | apply below_alloc | apply pw_below_drewN | apply below_drew1) | exact HB.out)⟩⟩
    case round =>
      clear H'
      try clear c2
      try clear c2b0
      try clear p2
      obtain ⟨x0_1, x4_1, rfl, HA, HK1, HO_4, HB⟩ := hrel
      cases gk with
      | zero => exact absurd HA.out (by simp [gatelineref17_Number.l0])
      | succ k1 =>
        have H := HA.out
        clear HA
        simp only [gatelineref17_Number.l0] at H
        by_cases c5 : x0_1 > 0
        · rw [if_pos c5] at H
          have c5b0 : decide (0 < x0_1) = true := decide_eq_true c5
          clear c5
          obtain ⟨y274, hy274⟩ : ∃ y_ : List Int, y_ = (([(Int.tmod x0_1 256) % 256] : List Int)) := ⟨_, rfl⟩
          replace H : (if y274.length + x4_1.length < 140737488355328 then (gatelineref17_Number.l0 k1 (wrap64 (Int.tdiv x0_1 256)) (y274 ++ x4_1)) else (none)) = some (r1, r2) := by first | (rw [hy274]; with_reducible exact H) | (have H2_ := (Option.bind_some _ _).symm.trans H; rw [hy274]; with_reducible exact H2_) | (have H2_ := (Option.bind_some _ _).symm.trans H; with_reducible exact H2_) | with_reducible exact H | (rw [hy274]; exact H) | exact H
          have Ny274 := Aside0.mk hy274
          clear hy274
          by_cases c6 : y274.length + x4_1.length < 140737488355328
          · rw [if_pos c6] at H
            have LMc6 := Aside0.mk c6
            clear c6
            obtain ⟨y277, hy277⟩ : ∃ y_ : List Int, y_ = (y274 ++ x4_1) := ⟨_, rfl⟩
            replace H : (gatelineref17_Number.l0 k1 (wrap64 (Int.tdiv x0_1 256)) y277) = some (r1, r2) := by first | (rw [hy277]; with_reducible exact H) | (have H2_ := (Option.bind_some _ _).symm.trans H; rw [hy277]; with_reducible exact H2_) | (have H2_ := (Option.bind_some _ _).symm.trans H; with_reducible exact H2_) | with_reducible exact H | (rw [hy277]; exact H) | exact H
            have Ny277 := Aside0.mk hy277
            clear hy277
            have H' := Aside0.mk H
            clear H
            go_wp2_with (first | ((with_reducible refine gate_dst (N := 14) rfl ?_); refine Kd.R_lit (Kd.int .u8) _ 5 ?hg (N := 14) ?hd (xs := ([(Int.tmod x0_1 256) % 256] : List Int)) (inner := [.int .u8 ((Int.tmod x0_1 256) % 256)]) (ok := fun _ => True) (okp := fun _ => True) ?hr ?hp (fun _ hk => hk) trivial (Below.refl _ _) (Nat.le_refl _) (by simp) ?_; (case hd => rfl); (case hg => rfl); (case hr => first | (go_simp; done) | (go_simp; rfl) | (go_simp; simp [gm_u8, gm_u32, gm_tmod]; done)); (case hp => exact (Reps.one (show Kd.M (Kd.int .u8) _ _ _ ((Int.tmod x0_1 256) % 256) [.int .u8 ((Int.tmod x0_1 256) % 256)] from rfl) (Reps.none _ _))); intro v275 w7 ho8 hb hg_ hnew_; clear hg_ hnew_; (first | rw [← Ny274.out] at ho8 | (simp only [Int.reduceToNat] at ho8; rw [← Ny274.out] at ho8)); have n0_ := Aside0.mk (Kd.R_elder' (by (with_reducible repeat (first | apply Kd.R_alloc | apply Kd.R_drewN | apply Kd.R_drew)); exact HO_4.out) (Kd.R_base ho8) hb); have n1_ := Aside0.mk (Kd.R_lower (Kd.R_new' ho8 (Kd.R_lt (by (with_reducible repeat (first | apply Kd.R_alloc | apply Kd.R_drewN | apply Kd.R_drew)); exact HO_4.out))) (below_size (by repeat (first | (with_reducible first | exact HB.out | apply below_alloc | apply pw_below_drewN | apply below_drew1) | exact HB.out)))); have n2_ := Aside0.mk (below_step (by repeat (first | (with_reducible first | exact HB.out | apply below_alloc | apply pw_below_drewN | apply below_drew1) | exact HB.out)) hb); clear HO_4; clear HB; have HO_4 := n0_; have HO276 := n1_; have HB := n2_; clear n0_ n1_ n2_; clear hb ho8; obtain ⟨Ao10, co10, eo10⟩ := Kd.R_slice HO_4.out; subst eo10) | ((with_reducible refine gate_builtin (b := .append) (xs := #[.tmp 15, .tmp 16]) rfl ?_); at_builtin; refine Kd.R_append_rows (Kd.int .u8) (w0 := w) w.heap.size rfl (.tmp 15) (.tmp 16) 24 5 (.int .u8 0) 1 rfl Try.underlying24 info5 rfl (by decide) (by omega) v275 y274 x4_1 _ _ _ (fun k_ => some k_ ≠ (.slice Ao10 x4_1.length co10 : Value).ownBlock) (fun _ => False) rfl rfl ?aO ?aR (fun _ _ h => h) (fun _ h => h.elim) ?aF ?aB ?aS ?aL ?_; (case aR => repeat (first | exact (Kd.R_reads' HO_4.out).2.2 | (with_reducible refine Kd.C_alloc ?_ _) | (with_reducible refine Kd.C_drewN ?_ _) | (with_reducible refine Kd.C_drew ?_))); (case aB => exact (by repeat (first | (with_reducible first | exact HB.out | apply below_alloc | apply pw_below_drewN | apply below_drew1) | exact HB.out))); (case aF => exact (fun k_ hk => Kd.fresh' (Kd.R_lt (by (with_reducible repeat (first | apply Kd.R_alloc | apply Kd.R_drewN | apply Kd.R_drew)); exact HO_4.out)) k_ hk)); (case aO => exact (by (with_reducible repeat (first | apply Kd.R_alloc | apply Kd.R_drewN | apply Kd.R_drew)); exact Kd.R_mono HO276.out (fun _ hk => hk.2))); (case aS => exact (below_size (by repeat (first | (with_reducible first | exact HB.out | apply below_alloc | apply pw_below_drewN | apply below_drew1) | exact HB.out)))); (case aL => have := LMc6.out; omega); intro v278 w9 ho hb hg hat; rw [← Ny277.out] at ho; have n0_ := Aside0.mk (Kd.R_after (ok := (fun _ => True)) (by (with_reducible repeat (first | apply Kd.R_alloc | apply Kd.R_drewN | apply Kd.R_drew)); exact HO_4.out) hg hat); have n1_ := Aside0.mk (hb); have n2_ := Aside0.mk (ho); clear HO_4; clear HB; clear HO276; have HO_4 := n0_; have HB := n1_; have HO279 := n2_; clear n0_ n1_ n2_; clear ho hb hg hat))
            go_roundg k1
            case measure => have := HK1.out; omega
            case rel => exact ⟨(wrap64 (Int.tdiv x0_1 256)), (y277), (by first | rfl | (simp; done) | (simp [*]; done)), H', ⟨by have := HK1.out; omega⟩, ⟨by (with_reducible repeat (first | apply Kd.R_alloc | apply Kd.R_drewN | apply Kd.R_drew)); exact Kd.R_mono HO279.out (fun _ hk => trivial)⟩, ⟨by repeat (first | (with_reducible first | exact HB.out | apply below_alloc | apply pw_below_drewN | apply below_drew1) | exact HB.out)⟩⟩
          · rw [if_neg c6] at H
            exact absurd H (by simp)
        · rw [if_neg c5] at H
          have c5b0 : decide (0 < x0_1) = false := decide_eq_false c5
          clear c5
          simp only [Option.some.injEq, Prod.mk.injEq] at H
          obtain ⟨rfl, rfl⟩ := H
          go_wp2
          go_ret2
          exact ⟨_, by first | rfl | (simp [errW_none, errW_some] <;> rfl) | (simp [*, errW_none, errW_some] <;> rfl), by (with_reducible repeat (first | apply Kd.R_alloc | apply Kd.R_drewN | apply Kd.R_drew)); exact HO_4.out, by repeat (first | (with_reducible first | exact HB.out | apply below_alloc | apply pw_below_drewN | apply below_drew1) | exact HB.out)⟩

/-! ### gatelineref01_Get: function 39 -/
mutual
def gatelineref01_Get.j0 : Nat → List Int → Bool → Option (Int × Int)
  | 0, _, _ => none
  | k + 1, x0, x17 => if x17 = true then (some (0, 23)) else (gatelineref01_Get.l0 k x0 0 0)
def gatelineref01_Get.l0 : Nat → List Int → Int → Int → Option (Int × Int)
  | 0, _, _, _ => none
  | k + 1, x0, x4, x5 => if x5 < (x0.length : Int) then (if 0 ≤ x5 then (gatelineref01_Get.l0 k x0 (wrap64 ((wrap64 (256 * x4)) + (wrap64 (rd x0 x5)))) (wrap64 (x5 + 1))) else (none)) else (some (x4, 0))
end
def gatelineref01_Get.f (k : Nat) (l0 : List Int) : Option (Int × Int) := if (l0.length : Int) > 8 then (some (0, 1)) else (if (l0.length : Int) = 8 then (if 0 < (l0.length : Int) then (gatelineref01_Get.j0 k l0 (decide ((rd l0 0) ≥ 128))) else (none)) else (gatelineref01_Get.j0 k l0 false))
theorem gatelineref01_Get.mono_l : ∀ k, (∀ y0 y1, LeO (gatelineref01_Get.j0 k y0 y1) (gatelineref01_Get.j0 (k + 1) y0 y1)) ∧ (∀ y0 y1 y2, LeO (gatelineref01_Get.l0 k y0 y1 y2) (gatelineref01_Get.l0 (k + 1) y0 y1 y2))
  | 0 => ⟨fun _ _ r h => by simp [gatelineref01_Get.j0] at h, fun _ _ _ r h => by simp [gatelineref01_Get.l0] at h⟩
  | k + 1 => by
    obtain ⟨ih0, ih1⟩ := gatelineref01_Get.mono_l k
    refine ⟨?_, ?_⟩
    · intro y0 y1
      unfold gatelineref01_Get.j0
      repeat' first
      | (with_reducible exact ih0 _ _)
      | (with_reducible exact ih1 _ _ _)
      | (with_reducible exact LeO.refl _)
      | (with_reducible exact LeO.none _)
      | (with_reducible refine LeO.ite ?_ ?_)
      | (with_reducible refine LeO.bind ?_ (fun _ => ?_))
      | exact ih0 _ _
      | exact ih1 _ _ _
      | exact LeO.none _
      | refine LeO.ite ?_ ?_
      | refine LeO.bind ?_ (fun _ => ?_)
    · intro y0 y1 y2
      unfold gatelineref01_Get.l0
      repeat' first
      | (with_reducible exact ih0 _ _)
      | (with_reducible exact ih1 _ _ _)
      | (with_reducible exact LeO.refl _)
      | (with_reducible exact LeO.none _)
      | (with_reducible refine LeO.ite ?_ ?_)
      | (with_reducible refine LeO.bind ?_ (fun _ => ?_))
      | exact ih0 _ _
      | exact ih1 _ _ _
      | exact LeO.none _
      | refine LeO.ite ?_ ?_
      | refine LeO.bind ?_ (fun _ => ?_)
theorem gatelineref01_Get.mono : ∀ a0 k, LeO (gatelineref01_Get.f k a0) (gatelineref01_Get.f (k + 1) a0) := by
  intro a0 k
  obtain ⟨ih0, ih1⟩ := gatelineref01_Get.mono_l k
  unfold gatelineref01_Get.f
  repeat' first
      | (with_reducible exact ih0 _ _)
      | (with_reducible exact ih1 _ _ _)
      | (with_reducible exact LeO.refl _)
      | (with_reducible exact LeO.none _)
      | (with_reducible refine LeO.ite ?_ ?_)
      | (with_reducible refine LeO.bind ?_ (fun _ => ?_))
      | exact ih0 _ _
      | exact ih1 _ _ _
      | exact LeO.none _
      | refine LeO.ite ?_ ?_
      | refine LeO.bind ?_ (fun _ => ?_)
set_option maxHeartbeats 8000000 in
set_option maxRecDepth 100000 in
theorem gatelineref01_Get.calls (k : Nat) (A0 : Option Addr) (c0 : Nat) (l0 : List Int) (r1 : Int) (r2 : Int) (w : World) (hr0 : Kd.C (Kd.int .u8) w A0 l0.length l0) (hc0 : l0.length ≤ c0) (h : gatelineref01_Get.f k l0 = some (r1, r2)) :
    Calls Try.prog 39 #[.slice A0 l0.length c0] w fun e w' => e = .returned (.tuple #[.int .i64 r1, .int .i64 r2]) ∧ Drawn0 w w' := by
  have HR0 := Aside0.mk hr0
  have HC0 := Aside0.mk hc0
  clear hr0 hc0
  have H : (if (l0.length : Int) > 8 then (some (0, 1)) else (if (l0.length : Int) = 8 then (if 0 < (l0.length : Int) then (gatelineref01_Get.j0 k l0 (decide ((rd l0 0) ≥ 128))) else (none)) else (gatelineref01_Get.j0 k l0 false))) = some (r1, r2) := h
  clear h
  by_cases c2 : (l0.length : Int) > 8
  · rw [if_pos c2] at H
    have c2b0 : decide (8 < (l0.length : Int)) = true := decide_eq_true c2
    have c2b1 : decide (8 < l0.length) = true := decide_eq_true (by omega)
    clear c2
    simp only [Option.some.injEq, Prod.mk.injEq] at H
    obtain ⟨rfl, rfl⟩ := H
    go_enter Try.func39, Try.ntmps39
    go_wp2
    go_ret2
    exact ⟨by first | rfl | (simp; done) | (simp [*]; done), by repeat (first | exact Drawn0.refl _ | apply Drawn0.step)⟩
  · rw [if_neg c2] at H
    have c2b0 : decide (8 < (l0.length : Int)) = false := decide_eq_false c2
    have c2b1 : decide (8 < l0.length) = false := decide_eq_false (by omega)
    clear c2
    have HC3 := Aside0.mk H
    clear H
    go_enter Try.func39, Try.ntmps39
    go_upto_region 3 with (fail)
    go_cut [17] (fun v17 wc => ∃ (kq : Nat) (x17_2 : Bool), v17 = .bool x17_2 ∧ Aside0 (gatelineref01_Get.j0 kq l0 x17_2 = some (r1, r2)) ∧ Aside0 (kq ≤ k) ∧ Drawn0 w wc)
    case first =>
      have H := HC3.out
      clear HC3
      by_cases c4 : (l0.length : Int) = 8
      · rw [if_pos c4] at H
        have c4b0 : ((l0.length : Int) == 8) = true := beq_iff_eq.mpr c4
        have c4b1 : ((l0.length : Int) != 8) = false := bne_eq_false_iff_eq.mpr c4
        clear c4
        (first | rw [c4b0] | (simp only [i64_w, i32_w]; rw [c4b0]) | skip)
        by_cases c5 : 0 < (l0.length : Int)
        · rw [if_pos c5] at H
          have c5b0 : decide (0 < (l0.length : Int)) = true := decide_eq_true c5
          have c5b1 : decide (0 < l0.length) = true := decide_eq_true (by omega)
          clear c5
          have H' := Aside0.mk H
          clear H
          have p280 : 0 ≤ (0 : Int) := (by omega)
          have q280 : 0 < (l0.length : Int) := of_decide_eq_true (by first | (with_reducible assumption) | assumption)
          obtain ⟨ad280, e280, hx280_0⟩ := Kd.at_int HR0.out 0 p280 q280
          cases e280
          have qi280 : (0 < l0.length) = True := eq_true (by omega)
          (try rw [show ((0 : Int)).toNat = 0 from rfl] at hx280_0)
          (try rw [Addr.add_zero'] at hx280_0)
          replace p280 := eq_true p280
          replace q280 := eq_true q280
          go_wp2
          go_meet
          case rel => exact ⟨_, (decide ((rd l0 0) ≥ 128)), (by first | rfl | (simp; done) | (simp [*]; done)), H', ⟨by first | omega | exact Nat.le_refl _⟩, by repeat (first | exact Drawn0.refl _ | apply Drawn0.step)⟩
        · rw [if_neg c5] at H
          exact absurd H (by simp)
      · rw [if_neg c4] at H
        have c4b0 : ((l0.length : Int) == 8) = false := beq_eq_false_iff_ne.mpr c4
        have c4b1 : ((l0.length : Int) != 8) = true := bne_iff_ne.mpr c4
        (first | rw [c4b0] | (simp only [i64_w, i32_w]; rw [c4b0]) | skip)
        have H' := Aside0.mk H
        clear H
        go_wp2
        go_meet
        case rel => exact ⟨_, (false), (by first | rfl | (simp; done) | (simp [*]; done)), H', ⟨by first | omega | exact Nat.le_refl _⟩, by repeat (first | exact Drawn0.refl _ | apply Drawn0.step)⟩
    case rest =>
      clear HC3
      try clear c2
      try clear c2b0
      try clear c2b1
      try clear p2
      try clear q2
      try clear hx2
      try clear qi2
      try clear c3
      try clear c4
      try clear c4b0
      try clear c4b1
      try clear c5
      try clear c5b0
      try clear c5b1
      try clear hx280_0
      try clear p280
      try clear q280
      obtain ⟨kq, x17_2, rfl, HA, HJ2, ⟨mc2, rfl⟩⟩ := hcut
      cases kq with
      | zero => exact absurd HA.out (by simp [gatelineref01_Get.j0])
      | succ kj2 =>
        have H := HA.out
        clear HA
        simp only [gatelineref01_Get.j0] at H
        by_cases c6 : x17_2 = true
        · subst c6
          have H1 : (some (0, 23)) = some (r1, r2) := by rw [if_pos rfl] at H; exact H
          clear H
          have H := H1
          clear H1
          simp only [Option.some.injEq, Prod.mk.injEq] at H
          obtain ⟨rfl, rfl⟩ := H
          go_wp2
          go_ret2
          exact ⟨by first | rfl | (simp; done) | (simp [*]; done), by repeat (first | exact Drawn0.refl _ | apply Drawn0.step)⟩
        · replace c6 := Bool.eq_false_iff.mpr c6
          subst c6
          have H1 : (gatelineref01_Get.l0 kj2 l0 0 0) = some (r1, r2) := by rw [if_neg (show ¬ (false = true) by decide)] at H; exact H
          clear H
          have H := H1
          clear H1
          have H' := Aside0.mk H
          clear H
          go_wp2
          go_loopg [4, 5] kj2 (fun kq v4 v5 w' => ∃ (x4_2 : Int) (x5_2 : Int), v4 = .int .i64 x4_2 ∧ v5 = .int .i64 x5_2 ∧ Aside0 (gatelineref01_Get.l0 kq l0 x4_2 x5_2 = some (r1, r2)) ∧ Aside0 (kq ≤ kj2) ∧ Drawn0 w w')
          case atStart => exact ⟨(0), (0), (by first | rfl | (simp; done) | (simp [*]; done)), (by first | rfl | (simp; done) | (simp [*]; done)), H', ⟨Nat.le_refl _⟩, by repeat (first | exact Drawn0.refl _ | apply Drawn0.step)⟩
          case round =>
            clear H'
            try clear c2
            try clear c2b0
            try clear c2b1
            try clear p2
            try clear q2
            try clear hx2
            try clear qi2
            try clear c3
            try clear c4
            try clear c4b0
            try clear c4b1
            try clear c5
            try clear c5b0
            try clear c5b1
            try clear c6
            try clear hx280_0
            try clear p2
            try clear p280
            try clear q2
            try clear q280
            obtain ⟨x4_2, x5_2, rfl, rfl, HA, HK2, ⟨m2, rfl⟩⟩ := hrel
            cases gk with
            | zero => exact absurd HA.out (by simp [gatelineref01_Get.l0])
            | succ k2 =>
              have H := HA.out
              clear HA
              simp only [gatelineref01_Get.l0] at H
              by_cases c7 : x5_2 < (l0.length : Int)
              · rw [if_pos c7] at H
                have c7b0 : decide (x5_2 < (l0.length : Int)) = true := decide_eq_true c7
                clear c7
                by_cases c8 : 0 ≤ x5_2
                · rw [if_pos c8] at H
                  have c8b0 : decide (0 ≤ x5_2) = true := decide_eq_true c8
                  clear c8
                  have H' := Aside0.mk H
                  clear H
                  have p281 : 0 ≤ (x5_2 : Int) := of_decide_eq_true (by first | (with_reducible assumption) | assumption)
                  have q281 : x5_2 < (l0.length : Int) := of_decide_eq_true (by first | (with_reducible assumption) | assumption)
                  obtain ⟨ad281, e281, hx281_0⟩ := Kd.at_int HR0.out x5_2 p281 q281
                  cases e281
                  replace p281 := eq_true p281
                  replace q281 := eq_true q281
                  go_wp2
                  go_roundg k2
                  case measure => have := HJ2.out; have := HK2.out; omega
                  case rel => exact ⟨(wrap64 ((wrap64 (256 * x4_2)) + (wrap64 (rd l0 x5_2)))), (wrap64 (x5_2 + 1)), (by first | rfl | (simp; done) | (simp [*]; done)), (by first | rfl | (simp; done) | (simp [*]; done)), H', ⟨by have := HJ2.out; have := HK2.out; omega⟩, by repeat (first | exact Drawn0.refl _ | apply Drawn0.step)⟩
                · rw [if_neg c8] at H
                  exact absurd H (by simp)
              · rw [if_neg c7] at H
                have c7b0 : decide (x5_2 < (l0.length : Int)) = false := decide_eq_false c7
                clear c7
                simp only [Option.some.injEq, Prod.mk.injEq] at H
                obtain ⟨rfl, rfl⟩ := H
                go_wp2
                go_ret2
                exact ⟨by first | rfl | (simp; done) | (simp [*]; done), by repeat (first | exact Drawn0.refl _ | apply Drawn0.step)⟩

/-! ### gatelineref17_Value: function 27 -/
def gatelineref17_Value.f (k : Nat) (l0 : List Int) : Option (Int × Int) := if (l0.length : Int) < 1 then (some (0, 14)) else (if (l0.length : Int) > 7 then (some (0, 14)) else (if 0 < (l0.length : Int) then (if (rd l0 0) = 0 then (some (0, 14)) else ((gatelineref01_Get.f k l0).bind fun bt283 => (some (bt283.1, bt283.2)))) else (none)))
theorem gatelineref17_Value.mono : ∀ a0 k, LeO (gatelineref17_Value.f k a0) (gatelineref17_Value.f (k + 1) a0) := by
  intro a0 k
  unfold gatelineref17_Value.f
  repeat' first
      | (with_reducible exact gatelineref01_Get.mono _ _)
      | (with_reducible exact LeO.refl _)
      | (with_reducible exact LeO.none _)
      | (with_reducible refine LeO.ite ?_ ?_)
      | (with_reducible refine LeO.bind ?_ (fun _ => ?_))
      | exact gatelineref01_Get.mono _ _
      | exact LeO.none _
      | refine LeO.ite ?_ ?_
      | refine LeO.bind ?_ (fun _ => ?_)
set_option maxHeartbeats 8000000 in
set_option maxRecDepth 100000 in
theorem gatelineref17_Value.calls (k : Nat) (A0 : Option Addr) (c0 : Nat) (l0 : List Int) (r1 : Int) (r2 : Int) (w : World) (hr0 : Kd.C (Kd.int .u8) w A0 l0.length l0) (hc0 : l0.length ≤ c0) (h : gatelineref17_Value.f k l0 = some (r1, r2)) :
    Calls Try.prog 27 #[.slice A0 l0.length c0] w fun e w' => e = .returned (.tuple #[.int .i64 r1, .int .i64 r2]) ∧ Drawn0 w w' := by
  have HR0 := Aside0.mk hr0
  have HC0 := Aside0.mk hc0
  clear hr0 hc0
  have H : (if (l0.length : Int) < 1 then (some (0, 14)) else (if (l0.length : Int) > 7 then (some (0, 14)) else (if 0 < (l0.length : Int) then (if (rd l0 0) = 0 then (some (0, 14)) else ((gatelineref01_Get.f k l0).bind fun bt283 => (some (bt283.1, bt283.2)))) else (none)))) = some (r1, r2) := h
  clear h
  by_cases c2 : (l0.length : Int) < 1
  · rw [if_pos c2] at H
    have c2b0 : decide ((l0.length : Int) < 1) = true := decide_eq_true c2
    have c2b1 : decide (l0.length < 1) = true := decide_eq_true (by omega)
    clear c2
    simp only [Option.some.injEq, Prod.mk.injEq] at H
    obtain ⟨rfl, rfl⟩ := H
    go_enter Try.func27, Try.ntmps27
    go_wp2
    go_ret2
    exact ⟨by first | rfl | (simp; done) | (simp [*]; done), by repeat (first | exact Drawn0.refl _ | apply Drawn0.step)⟩
  · rw [if_neg c2] at H
    have c2b0 : decide ((l0.length : Int) < 1) = false := decide_eq_false c2
    have c2b1 : decide (l0.length < 1) = false := decide_eq_false (by omega)
    clear c2
    by_cases c3 : (l0.length : Int) > 7
    · rw [if_pos c3] at H
      have c3b0 : decide (7 < (l0.length : Int)) = true := decide_eq_true c3
      have c3b1 : decide (7 < l0.length) = true := decide_eq_true (by omega)
      clear c3
      simp only [Option.some.injEq, Prod.mk.injEq] at H
      obtain ⟨rfl, rfl⟩ := H
      go_enter Try.func27, Try.ntmps27
      go_wp2
      go_ret2
      exact ⟨by first | rfl | (simp; done) | (simp [*]; done), by repeat (first | exact Drawn0.refl _ | apply Drawn0.step)⟩
    · rw [if_neg c3] at H
      have c3b0 : decide (7 < (l0.length : Int)) = false := decide_eq_false c3
      have c3b1 : decide (7 < l0.length) = false := decide_eq_false (by omega)
      clear c3
      by_cases c4 : 0 < (l0.length : Int)
      · rw [if_pos c4] at H
        have c4b0 : decide (0 < (l0.length : Int)) = true := decide_eq_true c4
        have c4b1 : decide (0 < l0.length) = true := decide_eq_true (by omega)
        clear c4
        by_cases c5 : (rd l0 0) = 0
        · rw [if_pos c5] at H
          have c5b0 : ((rd l0 0) == 0) = true := beq_iff_eq.mpr c5
          have c5b1 : ((rd l0 0) != 0) = false := bne_eq_false_iff_eq.mpr c5
          clear c5
          simp only [Option.some.injEq, Prod.mk.injEq] at H
          obtain ⟨rfl, rfl⟩ := H
          have p282 : 0 ≤ (0 : Int) := (by omega)
          have q282 : 0 < (l0.length : Int) := of_decide_eq_true (by first | (with_reducible assumption) | assumption)
          obtain ⟨ad282, e282, hx282_0⟩ := Kd.at_int HR0.out 0 p282 q282
          cases e282
          have qi282 : (0 < l0.length) = True := eq_true (by omega)
          (try rw [show ((0 : Int)).toNat = 0 from rfl] at hx282_0)
          (try rw [Addr.add_zero'] at hx282_0)
          replace p282 := eq_true p282
          replace q282 := eq_true q282
          go_enter Try.func27, Try.ntmps27
          go_wp2
          go_ret2
          exact ⟨by first | rfl | (simp; done) | (simp [*]; done), by repeat (first | exact Drawn0.refl _ | apply Drawn0.step)⟩
        · rw [if_neg c5] at H
          have c5b0 : ((rd l0 0) == 0) = false := beq_eq_false_iff_ne.mpr c5
          have c5b1 : ((rd l0 0) != 0) = true := bne_iff_ne.mpr c5
          replace H := Option.bind_eq_some_iff.mp H
          obtain ⟨⟨t283, t284⟩, A60, H⟩ := H
          replace H : (some (t283, t284)) = some (r1, r2) := H
          have A6 := Aside0.mk A60
          clear A60
          simp only [Option.some.injEq, Prod.mk.injEq] at H
          obtain ⟨rfl, rfl⟩ := H
          have p282 : 0 ≤ (0 : Int) := (by omega)
          have q282 : 0 < (l0.length : Int) := of_decide_eq_true (by first | (with_reducible assumption) | assumption)
          obtain ⟨ad282, e282, hx282_0⟩ := Kd.at_int HR0.out 0 p282 q282
          cases e282
          have qi282 : (0 < l0.length) = True := eq_true (by omega)
          (try rw [show ((0 : Int)).toNat = 0 from rfl] at hx282_0)
          (try rw [Addr.add_zero'] at hx282_0)
          replace p282 := eq_true p282
          replace q282 := eq_true q282
          go_enter Try.func27, Try.ntmps27
          go_wp2_with (first | ((with_reducible refine gate_callee (f := 39) rfl ?_); refine goesL_ (some 22) rfl rfl Try.func39 (by kernel_rfl) rfl #[.slice (some ad282) l0.length c0] rfl (by (try simp only [List.map_toArray, List.map_cons, List.map_nil]); first | done | rfl | (simp only [List.length_drop, List.length_take]; rfl)) ?_; (with_reducible refine (gatelineref01_Get.calls k _ _ l0 t283 t284 _ ?side1 ?side2 A6.out).mono ?_); (case side1 => repeat (first | exact HR0.out | (with_reducible refine Kd.C_alloc ?_ _) | (with_reducible refine Kd.C_drewN ?_ _) | (with_reducible refine Kd.C_drew ?_))); (case side2 => exact HC0.out); rintro e w' ⟨rfl, ⟨nd, rfl⟩⟩; refine ⟨_, rfl, ?_⟩; (try clear A6)))
          go_ret2
          exact ⟨by first | rfl | (simp; done) | (simp [*]; done), by repeat (first | exact Drawn0.refl _ | apply Drawn0.step)⟩
      · rw [if_neg c4] at H
        exact absurd H (by simp)

end Go.Proofs.Ytekgienbhpknlaa.PL
