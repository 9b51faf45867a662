/- The walk of the law MacInner (written by gen_minner.py). -/
import Derived.Test.YtbakfengmehkkaaGTagged
import Derived.Deep.RegionHeld3
namespace Go.Proofs.Ytbakfengmehkkaa.G
open Go Go.RowKit Go.Proofs.Ytbakfengmehkkaa.PL Go.Proofs.Ytbakfengmehkkaa.Q Go.Proofs.YtbakfengmehkkaaW.PrintWords Go.Proofs.YtbakfengmehkkaaW.PrintLast Go.Proofs.YtbakfengmehkkaaW.PrintMore
set_option maxRecDepth 100000 in
set_option maxHeartbeats 4000000 in
theorem macInner_any (A0 : Option Addr) (c0 : Nat) (l0 : List Int) (A1 : Option Addr) (c1 : Nat) (l1 : List Int) (w : World) (hr0 : Kd.C (Kd.int .u8) w A0 l0.length l0) (hc0 : l0.length ≤ c0) (hb0 : IsBytes l0) (hr1 : Kd.C (Kd.int .u8) w A1 l1.length l1) (hc1 : l1.length ≤ c1) (hb1 : IsBytes l1) :
    Calls Try.prog 10 #[.slice A0 l0.length c0, .slice A1 l1.length c1] w fun e w' => e = .returned (.bool true) ∧ Below w.heap.size w w' := by
  have HR := Aside0.mk hr0
  have HC := Aside0.mk hc0
  have HBY := Aside0.mk hb0
  have HR1 := Aside0.mk hr1
  have HC1 := Aside0.mk hc1
  have HBY1 := Aside0.mk hb1
  clear hr0 hc0 hb0 hr1 hc1 hb1
  go_enter Try.func10, Try.ntmps10
  by_cases h0 : (l0.length : Int) > 1000
  · go_wp2
    go_ret
    exact ⟨rfl, Below.refl _ _⟩
  by_cases h1 : (l1.length : Int) > 2000
  · go_wp2
    go_ret
    exact ⟨rfl, Below.refl _ _⟩
  have HL : Aside0 (l0.length ≤ 1000) := ⟨by omega⟩
  have HL1 : Aside0 (l1.length ≤ 2000) := ⟨by omega⟩
  go_upto_region 4 with (first
    | (go_at_call 25; refine (mblock_any A0 c0 l0 _ HR.out HC.out (by have := HL.out; omega) HBY.out).mono ?_; rintro e w1 ⟨rfl, hb⟩; have PB := Aside0.mk hb; clear hb)
    | (refine wpList_store_blk rfl 41 (.tmp 5) (.tmp 19) rfl w1.heap.size (bytesA (blkL l0)) rfl rfl 41 _ (Blk.new w1 _ _) (by rw [bytes_size, blkL_len]; kernel_rfl) (by rw [bytes_size, blkL_len]; try rfl) (bytes_one _) ?_; intro w2 hv hg; have Q5 := Aside0.mk hv; have QB := Aside0.mk (below_grown (PB.out.alloc PB.out.size _) hg PB.out.size (by have := PB.out.size; simp only [World.size_alloc]; omega)); clear hv hg))
  obtain ⟨n5, hn5⟩ : ∃ n, n = w1.heap.size := ⟨_, rfl⟩
  rw [← hn5] at Q5
  try rw [← hn5]
  clear hn5 PB h0 h1
  obtain ⟨nb, hnb⟩ : ∃ nb, nb = w2.heap.size := ⟨_, rfl⟩
  have L4 : Aside0 (w.heap.size ≤ nb) := ⟨by rw [hnb]; exact QB.out.size⟩
  have L5 : Aside0 (n5 < nb) := ⟨by rw [hnb]; exact Q5.out.lt⟩
  have S0 : Aside0 (nb ≤ w2.heap.size ∧ Below nb w2 w2) := ⟨Nat.le_of_eq hnb, Below.refl _ _⟩
  have HNB := Aside0.mk hnb
  clear hnb
  have HI : Aside0 (sumR ((blkL l0).map (xorB 54) ++ l1) = innerR l0 l1) := ⟨rfl⟩
  have HT : Aside0 (sumR ((blkL l0).map (xorB 92) ++ innerR l0 l1) = tagR l0 l1) := ⟨rfl⟩
  have HXI : Aside0 ((innerR l0 l1).length = 32) := ⟨sumR_len _⟩
  have HXB : Aside0 (IsBytes (innerR l0 l1)) := ⟨sumR_isBytes _⟩
  have HTL : Aside0 ((tagR l0 l1).length = 32) := ⟨tagR_len _ _⟩
  have HKL : Aside0 ((blkL l0).length = 64) := ⟨blkL_len l0⟩
  generalize blkL l0 = K at *
  generalize innerR l0 l1 = IN at *
  obtain ⟨TG, hTG⟩ : ∃ TG, TG = tagR l0 l1 := ⟨_, rfl⟩
  rw [← hTG] at HT HTL
  have HTG := Aside0.mk hTG
  clear hTG
  have heq := fun d W => eq32 d W TG HTL.out
  have HX6 : Aside0 (IsBytes (K.map (xorB 54))) := ⟨xorB_isBytes 54 K⟩
  have HX7 : Aside0 (IsBytes (K.map (xorB 92))) := ⟨xorB_isBytes 92 K⟩
  go_wp2_with (first
    | ((with_reducible refine gate_dst (N := 20) rfl ?_); refine Kd.R_lit (Kd.int .u8) (w0 := w2) nb 5 ?hg (N := 20) ?hd (xs := ([] : List Int)) (inner := []) (ok := fun _ => True) (okp := fun _ => True) ?hr ?hp (fun _ hk => hk) trivial S0.out.2 (by exact S0.out.1) (by simp) ?_; (case hd => rfl); (case hg => rfl); (case hr => first | (go_simp; done) | (go_simp; rfl)); (case hp => exact (Reps.none _ _)); intro u6 w3 ho hb hg hnew; have S1 := Aside0.mk (show (nb ≤ w3.heap.size ∧ Below nb w2 w3) from ⟨Nat.le_trans S0.out.1 hg.size, hb⟩); have R1 := Aside0.mk ho; clear ho hb hg hnew)
    | ((with_reducible refine gate_dst (N := 21) rfl ?_); refine Kd.R_lit (Kd.int .u8) (w0 := w2) nb 5 ?hg (N := 21) ?hd (xs := ([] : List Int)) (inner := []) (ok := fun _ => True) (okp := fun _ => True) ?hr ?hp (fun _ hk => hk) trivial S1.out.2 (by exact S1.out.1) (by simp) ?_; (case hd => rfl); (case hg => rfl); (case hr => first | (go_simp; done) | (go_simp; rfl)); (case hp => exact (Reps.none _ _)); intro u7 w4 ho hb hg hnew; have S2 := Aside0.mk (show TW nb w2 w4 ((K.take 0).map (xorB 54)) ((K.take 0).map (xorB 92)) u6 u7 from ⟨Kd.R_grown2 R1.out rfl hg (fun k hk => by cases hk), ho, fun k hk e => by obtain ⟨j, hj, hle⟩ := hnew; rw [hj] at e; obtain rfl := Option.some.inj e; have := Kd.R_lt R1.out k hk; omega, hb, Nat.le_trans S1.out.1 hg.size⟩); clear ho hb hg hnew R1 S1 S0))
  go_loopw [6, 7, 8] (fun v6 v7 v8 wr => ∃ i : Nat, v8 = .int .i64 i ∧ Aside0 (i ≤ 64) ∧ Aside0 (TW nb w2 wr ((K.take i).map (xorB 54)) ((K.take i).map (xorB 92)) v6 v7)) (fun _ _ v8 _ => 64 - (intOf v8).toNat)
  case atStart => exact ⟨0, rfl, ⟨by omega⟩, S2⟩
  case round =>
    clear S2
    obtain ⟨i, rfl, HI8, S⟩ := hrel
    by_cases hi : i < 64
    · have hcl := (Q5.out.below S.out.hb L5.out).cell i _ (bytesA_at K i (by rw [HKL.out]; exact hi))
      obtain ⟨y, hy⟩ : ∃ y, y = K.getD i 0 := ⟨_, rfl⟩
      have e6 := xor_take 54 K i (by rw [HKL.out]; exact hi)
      have e7 := xor_take 92 K i (by rw [HKL.out]; exact hi)
      rw [← hy] at hcl e6 e7
      have HY := Aside0.mk hy
      have E6 := Aside0.mk e6
      have E7 := Aside0.mk e7
      clear hy e6 e7
      have hj0 : (0 : Int) ≤ i := Int.natCast_nonneg _
      have hj1 : (i : Int) < 64 := by omega
      have HII := Aside0.mk hi
      clear hi
      go_wp2_with (first
        | ((with_reducible refine gate_builtin (b := .append) (xs := #[.tmp 26, .tmp 31]) rfl ?_); at_builtin; refine Kd.R_append (Kd.int .u8) (w0 := w2) nb rfl (.tmp 26) (.tmp 31) 22 5 (.int .u8 0) 1 rfl Try.underlying22 info5 rfl (by decide) (by omega) u6 ((K.take i).map (xorB 54)) (bits .xor .u8 y 54) [.int .u8 (bits .xor .u8 y 54)] (fun _ => True) (fun _ => False) rfl rfl rfl (fun _ hk => hk.elim) (fun _ _ => trivial) S.out.r6 S.out.hb S.out.hs (by have := HII.out; rw [List.length_map, List.length_take]; omega) ?_; intro v61 w11 ho hb hg hat; rw [E6.out] at ho; have S1 := Aside0.mk (S.out.app6 ho hb hg hat); have hcl2 := (Q5.out.below S1.out.hb L5.out).cell i _ (bytesA_at K i (by rw [HKL.out]; exact HII.out)); rw [← HY.out] at hcl2; clear ho hb hg hat S)
        | ((with_reducible refine gate_builtin (b := .append) (xs := #[.tmp 33, .tmp 38]) rfl ?_); at_builtin; refine Kd.R_append (Kd.int .u8) (w0 := w2) nb rfl (.tmp 33) (.tmp 38) 22 5 (.int .u8 0) 1 rfl Try.underlying22 info5 rfl (by decide) (by omega) u7 ((K.take i).map (xorB 92)) (bits .xor .u8 y 92) [.int .u8 (bits .xor .u8 y 92)] (fun _ => True) (fun _ => False) rfl rfl rfl (fun _ hk => hk.elim) (fun _ _ => trivial) S1.out.r7 S1.out.hb S1.out.hs (by have := HII.out; rw [List.length_map, List.length_take]; omega) ?_; intro v71 w12 ho hb hg hat; rw [E7.out] at ho; have S2 := Aside0.mk (S1.out.app7 ho hb hg hat); clear ho hb hg hat S1))
      go_roundw
      case measure => have := HII.out; simp [intOf]; omega
      case rel => exact ⟨i + 1, by simp, ⟨by have := HII.out; omega⟩, S2⟩
    · have hj1 : ¬ (i : Int) < 64 := by omega
      have hi64 : K.take i = K := List.take_of_length_le (by rw [HKL.out]; omega)
      rw [hi64] at S
      clear hi hi64 HI8
      go_upto_region 12 with (first
        | ((with_reducible refine gate_builtin (b := .append) (xs := #[.tmp 40, .tmp 41]) rfl ?_); at_builtin; refine Kd.R_append_rows (Kd.int .u8) (w0 := w2) nb rfl (.tmp 40) (.tmp 41) 22 5 (.int .u8 0) 1 rfl Try.underlying22 info5 rfl (by decide) (by omega) u6 (K.map (xorB 54)) l1 A1 l1.length c1 (fun _ => True) (fun _ => False) rfl rfl S.out.r6 (Kd.C_below (Kd.C_below HR1.out QB.out) (by rw [← HNB.out]; exact S.out.hb)) (fun _ _ h => h) (fun _ h => h.elim) (fun _ _ => trivial) S.out.hb S.out.hs (by rw [List.length_map, HKL.out]; have := HL1.out; omega) ?_; intro u9 w9 ho hb hg hat; have S9 := Aside0.mk (S.out.app6 ho hb hg hat); obtain ⟨A9, c9, rfl, RL, RC⟩ := Kd.R_reads ho; have HN9 : Aside0 ((K.map (xorB 54) ++ l1).length = K.length + l1.length) := ⟨by rw [List.length_append, List.length_map]⟩; rw [HN9.out] at RL RC; have RL9 := Aside0.mk RL; have RC9 := Aside0.mk RC; clear ho hb hg hat S RL RC)
        | (go_at_call 17; refine (xsum_any A9 c9 (K.length + l1.length) (K.map (xorB 54) ++ l1) _ HN9.out RC9.out RL9.out (by rw [List.length_append, List.length_map, HKL.out]; have := HL1.out; omega) (isBytes_app HX6.out HBY1.out)).mono ?_; rintro e w10 ⟨rfl, hb⟩; rw [HI.out]; have S10 := Aside0.mk (S9.out.below hb); clear hb)
        | (refine wpList_store_blk rfl 32 (.tmp 9) (.tmp 43) rfl w10.heap.size (bytesA IN) rfl rfl 32 _ (Blk.new w10 _ _) (by rw [bytes_size, HXI.out]; kernel_rfl) (by rw [bytes_size, HXI.out]; try rfl) (bytes_one _) ?_; intro w11 hv hg; have B11 := Aside0.mk hv; have S11 := Aside0.mk (show TW nb w2 w11 _ _ _ _ from ⟨Kd.R_grown2 (S10.out.alloc _).r6 rfl hg (fun k hk e => by have := Kd.R_lt S10.out.r6 k e.symm; have := Option.some.inj hk; omega), Kd.R_grown2 (S10.out.alloc _).r7 rfl hg (fun k hk e => by have := Kd.R_lt S10.out.r7 k e.symm; have := Option.some.inj hk; omega), S10.out.ne, below_grown (S10.out.alloc _).hb hg S10.out.hs (by have := S10.out.hs; simp only [World.size_alloc]; omega), Nat.le_trans S10.out.hs (Nat.le_trans (by simp) hg.size)⟩); clear hv hg))
      obtain ⟨n9, hn9⟩ : ∃ n, n = w10.heap.size := ⟨_, rfl⟩
      rw [← hn9] at B11
      try rw [← hn9]
      clear hn9 S9 S10 RL9 RC9 HN9
      have T11 := Aside0.mk (S11.out.below (below_drew1 (Below.refl _ _)))
      have B12 := Aside0.mk (show Blk w11.drew n9 (bytesA IN) 32 from B11.out)
      clear S11 B11
      refine wp_region_held_drew (S := fun W' => Below nb w2 W') (by kernel_rfl) T11.out.hb (fun S0 => ?_)
      generalize w11.drew = w12 at *
      refine wpAnyH_ready (rs := [0]) (by kernel_rfl) (by simp) ?_
      refine AllReadyH.cons rfl (fun K_ hK => ?_) AllReadyH.nil
      rw [if_pos (show _ = true by kernel_rfl)]
      go_simp
      go_at_call 22
      refine (tagged_calls _).mono ?_
      rintro e w13 ⟨rfl, hb⟩
      have T13 := Aside0.mk (T11.out.below hb)
      have B13 := Aside0.mk (B12.out.below hb B12.out.lt)
      replace S0 := T13.out.hb
      clear hb T11 B12
      go_wp2_with fail
      refine hK.out _ _ S0 (fun _ => ?_)
      clear hK K_
      try simp only [Act.put, List.getElem_toArray, List.getElem_cons_zero, List.getElem_cons_succ, List.setIfInBounds_toArray, List.set_cons_zero, List.set_cons_succ]
      refine wpAnyH_take (i := 1) (v := ?_) rfl (by kernel_rfl) (by kernel_rfl) (by kernel_rfl) (fun _ _ _ h => h) (Or.inl ⟨by rfl, ?_⟩) S0 ?_
      rotate_left
      · intro w hSw; go_simp
        all_goals with_reducible rfl
      try simp only [Act.put, List.getElem_toArray, List.getElem_cons_zero, List.getElem_cons_succ, List.setIfInBounds_toArray, List.set_cons_zero, List.set_cons_succ]
      refine wpAnyH_take (i := 2) (v := ?_) rfl (by kernel_rfl) (by kernel_rfl) (by kernel_rfl) (fun _ _ _ h => h) (Or.inl ⟨by rfl, ?_⟩) S0 ?_
      rotate_left
      · intro w hSw; go_simp
        all_goals with_reducible rfl
      try simp only [Act.put, List.getElem_toArray, List.getElem_cons_zero, List.getElem_cons_succ, List.setIfInBounds_toArray, List.set_cons_zero, List.set_cons_succ]
      refine wpAnyH_take (i := 3) (v := ?_) rfl (by kernel_rfl) (by kernel_rfl) (by kernel_rfl) (fun _ _ _ h => h) (Or.inl ⟨by rfl, ?_⟩) S0 ?_
      rotate_left
      · intro w hSw; go_simp
        all_goals with_reducible rfl
      try simp only [Act.put, List.getElem_toArray, List.getElem_cons_zero, List.getElem_cons_succ, List.setIfInBounds_toArray, List.set_cons_zero, List.set_cons_succ]
      refine wpAnyH_take (i := 5) (v := ?_) rfl (by kernel_rfl) (by kernel_rfl) (by kernel_rfl) (fun _ _ _ h => h) (Or.inl ⟨by rfl, ?_⟩) S0 ?_
      rotate_left
      · intro w hSw; go_simp
        all_goals with_reducible rfl
      try simp only [Act.put, List.getElem_toArray, List.getElem_cons_zero, List.getElem_cons_succ, List.setIfInBounds_toArray, List.set_cons_zero, List.set_cons_succ]
      refine wpAnyH_take (i := 6) (v := ?_) rfl (by kernel_rfl) (by kernel_rfl) (by kernel_rfl) (fun _ _ _ h => h) (Or.inl ⟨by rfl, ?_⟩) S0 ?_
      rotate_left
      · intro w hSw; go_simp
        all_goals with_reducible rfl
      try simp only [Act.put, List.getElem_toArray, List.getElem_cons_zero, List.getElem_cons_succ, List.setIfInBounds_toArray, List.set_cons_zero, List.set_cons_succ]
      refine wpAnyH_ready (rs := [4]) (by kernel_rfl) (by simp) ?_
      refine AllReadyH.cons rfl (fun K_ hK => ?_) AllReadyH.nil
      rw [if_pos (show _ = true by kernel_rfl)]
      go_simp
      go_at_call 23
      refine (mtag_any A0 c0 l0 A1 c1 l1 _ (Kd.C_below (Kd.C_below HR.out QB.out) (by rw [← HNB.out]; exact T13.out.hb)) HC.out (by have := HL.out; omega) HBY.out (Kd.C_below (Kd.C_below HR1.out QB.out) (by rw [← HNB.out]; exact T13.out.hb)) HC1.out (by have := HL1.out; omega) HBY1.out).mono ?_
      rintro e w14 ⟨rfl, hb⟩
      rw [← HTG.out]
      have T14 := Aside0.mk (T13.out.below hb)
      have B14 := Aside0.mk (B13.out.below hb B13.out.lt)
      replace S0 := T14.out.hb
      clear hb T13 B13
      go_wp2_with fail
      refine hK.out _ _ S0 (fun _ => ?_)
      clear hK K_
      try simp only [Act.put, List.getElem_toArray, List.getElem_cons_zero, List.getElem_cons_succ, List.setIfInBounds_toArray, List.set_cons_zero, List.set_cons_succ]
      refine wpAnyH_ready (rs := [7]) (by kernel_rfl) (by simp) ?_
      refine AllReadyH.cons rfl (fun K_ hK => ?_) AllReadyH.nil
      refine Kd.R_append_rows_step (Kd.int .u8) (w0 := w2) nb (by kernel_rfl) (.tmp 49) (.tmp 50) 22 5 (.int .u8 0) 1 rfl Try.underlying22 info5 rfl (by decide) (by omega) u7 (K.map (xorB 92)) IN (some ⟨n9, 0, none⟩) 32 32 (fun _ => True) (fun _ => False) rfl rfl T14.out.r7 (by have h := C_of_blk8 B14.out (by rw [HXI.out]; decide); rw [HXI.out] at h; exact h) (fun _ _ h => h) (fun _ h => h.elim) (fun _ _ => trivial) T14.out.hb T14.out.hs (by rw [List.length_map, HKL.out]; decide) ?_
      intro u15 w15 ho hb hg hat
      have T15 := Aside0.mk (T14.out.app7 ho hb hg hat)
      obtain ⟨A15, c15, rfl, RL, RC⟩ := Kd.R_reads ho
      have HN15 : Aside0 ((K.map (xorB 92) ++ IN).length = K.length + IN.length) := ⟨by rw [List.length_append, List.length_map]⟩
      rw [HN15.out] at RL RC
      have RL15 := Aside0.mk RL
      have RC15 := Aside0.mk RC
      replace S0 := T15.out.hb
      clear ho hb hg hat RL RC T14 B14
      rw [HN15.out]
      refine hK.out _ _ S0 (fun _ => ?_)
      clear hK K_
      try simp only [Act.put, List.getElem_toArray, List.getElem_cons_zero, List.getElem_cons_succ, List.setIfInBounds_toArray, List.set_cons_zero, List.set_cons_succ]
      refine wpAnyH_ready (rs := [8]) (by kernel_rfl) (by simp) ?_
      refine AllReadyH.cons rfl (fun K_ hK => ?_) AllReadyH.nil
      rw [if_pos (show _ = true by kernel_rfl)]
      go_simp
      go_at_call 17
      refine (xsum_any A15 c15 (K.length + IN.length) (K.map (xorB 92) ++ IN) _ HN15.out RC15.out RL15.out (by rw [List.length_append, List.length_map, HKL.out, HXI.out]; decide) (isBytes_app HX7.out HXB.out)).mono ?_
      rintro e w16 ⟨rfl, hb⟩
      rw [HT.out]
      have T16 := Aside0.mk (T15.out.below hb)
      replace S0 := T16.out.hb
      clear hb T15
      go_wp2_with fail
      refine hK.out _ _ S0 (fun _ => ?_)
      clear hK K_
      try simp only [Act.put, List.getElem_toArray, List.getElem_cons_zero, List.getElem_cons_succ, List.setIfInBounds_toArray, List.set_cons_zero, List.set_cons_succ]
      refine wpAnyH_take (i := 9) (v := ?_) rfl (by kernel_rfl) (by kernel_rfl) (by kernel_rfl) (fun _ _ _ h => h) (Or.inl ⟨by rfl, ?_⟩) S0 ?_
      rotate_left
      · intro w hSw; go_simp
        all_goals with_reducible rfl
      try simp only [Act.put, List.getElem_toArray, List.getElem_cons_zero, List.getElem_cons_succ, List.setIfInBounds_toArray, List.set_cons_zero, List.set_cons_succ]
      refine wpAnyH_take (i := 10) (v := ?_) rfl (by kernel_rfl) (by kernel_rfl) (by kernel_rfl) (fun _ _ _ h => h) (Or.inl ⟨by rfl, ?_⟩) S0 ?_
      rotate_left
      · intro w hSw; go_simp
        all_goals with_reducible rfl
      try simp only [Act.put, List.getElem_toArray, List.getElem_cons_zero, List.getElem_cons_succ, List.setIfInBounds_toArray, List.set_cons_zero, List.set_cons_succ]
      refine wpAnyH_take (i := 11) (v := ?_) rfl (by kernel_rfl) (by kernel_rfl) (by kernel_rfl) (fun _ _ _ h => h) (Or.inl ⟨by rfl, ?_⟩) S0 ?_
      rotate_left
      · intro w hSw; go_simp
        all_goals with_reducible rfl
      try simp only [Act.put, List.getElem_toArray, List.getElem_cons_zero, List.getElem_cons_succ, List.setIfInBounds_toArray, List.set_cons_zero, List.set_cons_succ]
      refine wpAnyH_done (by kernel_rfl) ?_ _
      go_wp2
      go_ret
      exact ⟨rfl, QB.out.trans (S0.mono L4.out)⟩
end Go.Proofs.Ytbakfengmehkkaa.G
