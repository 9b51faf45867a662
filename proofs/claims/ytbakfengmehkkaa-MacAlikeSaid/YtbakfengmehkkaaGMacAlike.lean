/- The walk of the law MacAlike (written by gen_malike.py). -/
import Derived.Test.YtbakfengmehkkaaGTagged
import Derived.Deep.RegionHeld3
import Derived.Deep.MidRow
namespace Go.Proofs.Ytbakfengmehkkaa.G
open Go Go.RowKit Go.Proofs.Ytbakfengmehkkaa.PL Go.Proofs.Ytbakfengmehkkaa.Q Go.Proofs.YtbakfengmehkkaaW.PrintWords Go.Proofs.YtbakfengmehkkaaW.PrintLast Go.Proofs.YtbakfengmehkkaaW.PrintMore
theorem range8_of {W : World} {b : Nat} {l : List Int} {t : TypeId} (h : Blk W b (bytesA l) t) : W.rangeAt b 0 (l.map (Value.int .u8)) := fun j u hu => by
  rw [Nat.zero_add]; exact h.cell j u (by simpa [bytesA] using hu)
theorem xmtag_any (A0 : Option Addr) (c0 n0 : Nat) (l0 : List Int) (A1 : Option Addr) (c1 : Nat) (l1 : List Int) (w : World) (hn : l0.length = n0) (hr0 : Kd.C (Kd.int .u8) w A0 n0 l0) (hc0 : n0 ≤ c0) (hl0 : l0.length ≤ 1000000) (hb0 : IsBytes l0) (hr1 : Kd.C (Kd.int .u8) w A1 l1.length l1) (hc1 : l1.length ≤ c1) (hl1 : l1.length ≤ 1000000) (hb1 : IsBytes l1) :
    Calls Try.prog 23 #[.slice A0 n0 c0, .slice A1 l1.length c1] w fun e w' => e = .returned (.agg (bytesA (tagR l0 l1))) ∧ Below w.heap.size w w' := by
  subst hn
  exact mtag_any A0 c0 l0 A1 c1 l1 w hr0 hc0 hl0 hb0 hr1 hc1 hl1 hb1
theorem xmblock_any (A0 : Option Addr) (c0 n0 : Nat) (l0 : List Int) (w : World) (hn : l0.length = n0) (hr : Kd.C (Kd.int .u8) w A0 n0 l0) (hc : n0 ≤ c0) (hl : l0.length ≤ 140737488351232) (hb : IsBytes l0) :
    Calls Try.prog 25 #[.slice A0 n0 c0] w fun e w' => e = .returned (.agg (bytesA (blkL l0))) ∧ Below w.heap.size w w' := by
  subst hn
  exact mblock_any A0 c0 l0 w hr hc hl hb
theorem zeros_next (l : List Int) (j : Nat) : (l ++ List.replicate j 0) ++ [0] = l ++ List.replicate (j + 1) 0 := by
  rw [List.append_assoc, List.replicate_succ']
theorem zeros_isBytes {l : List Int} (h : IsBytes l) (j : Nat) : IsBytes (l ++ List.replicate j 0) := isBytes_app h (fun x hx => by rw [(List.mem_replicate.1 hx).2]; decide)
/-- One row of the call's own that is being appended to. -/
structure LW (nb : Nat) (w4 W : World) (l : List Int) (u : Value) : Prop where
  r : Kd.R (Kd.int .u8) 5 W nb (fun _ => True) u l
  hb : Below nb w4 W
  hs : nb ≤ W.heap.size
set_option maxRecDepth 100000 in
set_option maxHeartbeats 8000000 in
theorem macAlike_any (A0 : Option Addr) (c0 : Nat) (l0 : List Int) (A1 : Option Addr) (c1 : Nat) (l1 : List Int) (n : Int) (w : World) (hr0 : Kd.C (Kd.int .u8) w A0 l0.length l0) (hc0 : l0.length ≤ c0) (hb0 : IsBytes l0) (hr1 : Kd.C (Kd.int .u8) w A1 l1.length l1) (hc1 : l1.length ≤ c1) (hb1 : IsBytes l1) :
    Calls Try.prog 9 #[.slice A0 l0.length c0, .slice A1 l1.length c1, .int .i64 n] w fun e w' => e = .returned (.bool true) ∧ Below w.heap.size w w' := by
  have HR := Aside0.mk hr0
  have HC := Aside0.mk hc0
  have HBY := Aside0.mk hb0
  have HR1 := Aside0.mk hr1
  have HC1 := Aside0.mk hc1
  have HBY1 := Aside0.mk hb1
  clear hr0 hc0 hb0 hr1 hc1 hb1
  go_enter Try.func9, Try.ntmps9
  by_cases h0 : (l0.length : Int) > 1000
  · go_wp2
    go_ret
    exact ⟨rfl, Below.refl _ _⟩
  by_cases h1 : (l1.length : Int) > 2000
  · go_wp2
    go_ret
    exact ⟨rfl, Below.refl _ _⟩
  have HL : Aside0 (l0.length ≤ 1000) := ⟨by omega⟩
  have HL1 : Aside0 (l1.length ≤ 2000) := ⟨by omega⟩
  obtain ⟨TG, hTG⟩ : ∃ TG, TG = tagR l0 l1 := ⟨_, rfl⟩
  obtain ⟨K, hK⟩ : ∃ K, K = blkL l0 := ⟨_, rfl⟩
  have HTL : Aside0 (TG.length = 32) := ⟨by rw [hTG]; exact tagR_len _ _⟩
  have HKL : Aside0 (K.length = 64) := ⟨by rw [hK]; exact blkL_len l0⟩
  have HKB : Aside0 (IsBytes K) := ⟨by rw [hK]; exact blkL_isBytes HBY.out⟩
  have HBK : Aside0 (blkL K = K) := ⟨by rw [hK]; exact blkL_blkL l0⟩
  have HTK : Aside0 (tagR K l1 = TG) := ⟨by rw [hTG, hK]; exact tagR_alike (blkL_blkL l0) l1⟩
  have e32 := fun d W => eq32 d W TG HTL.out
  have e64 := fun d W => eq64 d W K HKL.out
  have e32b : ∀ d W, (Op.equalIn (d + 2) 32 (.agg (bytesA TG)) (.agg (TG.map (Value.int .u8)).toArray)).run Try.prog W = .ok true W := e32
  have e64b : ∀ d W, (Op.equalIn (d + 2) 41 (.agg (bytesA K)) (.agg (K.map (Value.int .u8)).toArray)).run Try.prog W = .ok true W := e64
  have HTG := Aside0.mk hTG
  have HKE := Aside0.mk hK
  clear hTG hK
  go_upto_region 4 with (first
    | (go_at_call 23; refine (mtag_any A0 c0 l0 A1 c1 l1 _ HR.out HC.out (by have := HL.out; omega) HBY.out HR1.out HC1.out (by have := HL1.out; omega) HBY1.out).mono ?_; rintro e w1 ⟨rfl, hb⟩; rw [← HTG.out]; have PB := Aside0.mk hb; clear hb)
    | (refine wpList_store_blk rfl 32 (.tmp 7) (.tmp 22) rfl w1.heap.size (bytesA TG) rfl rfl 32 _ (Blk.new w1 _ _) (by rw [bytes_size, HTL.out]; kernel_rfl) (by rw [bytes_size, HTL.out]; try rfl) (bytes_one _) ?_; intro w2 hv hg; have P7 := Aside0.mk hv; have P2 := Aside0.mk (below_grown (PB.out.alloc PB.out.size _) hg PB.out.size (by have := PB.out.size; simp only [World.size_alloc]; omega)); clear hv hg PB))
  obtain ⟨n7, hn7⟩ : ∃ n, n = w1.heap.size := ⟨_, rfl⟩
  rw [← hn7] at P7
  try rw [← hn7]
  clear hn7
  go_upto_region 5 with (first
    | (go_at_call 25; refine (mblock_any A0 c0 l0 _ (Kd.C_below HR.out P2.out) HC.out (by have := HL.out; omega) HBY.out).mono ?_; rintro e w3 ⟨rfl, hb⟩; rw [← HKE.out]; have R7 := Aside0.mk (P7.out.below hb P7.out.lt); have RB := Aside0.mk (below_step P2.out hb); clear hb P7 P2)
    | (refine wpList_store_blk rfl 41 (.tmp 8) (.tmp 24) rfl w3.heap.size (bytesA K) rfl rfl 41 _ (Blk.new w3 _ _) (by rw [bytes_size, HKL.out]; kernel_rfl) (by rw [bytes_size, HKL.out]; try rfl) (bytes_one _) ?_; intro w4 hv hg; have M8 := Aside0.mk hv; have M7 := Aside0.mk ((R7.out.alloc _).grown hg (by have := R7.out.lt; omega)); have QB := Aside0.mk (below_grown (RB.out.alloc RB.out.size _) hg RB.out.size (by have := RB.out.size; simp only [World.size_alloc]; omega)); clear hv hg RB R7))
  obtain ⟨n8, hn8⟩ : ∃ n, n = w3.heap.size := ⟨_, rfl⟩
  rw [← hn8] at M8
  try rw [← hn8]
  clear hn8 h0 h1
  obtain ⟨nb, hnb⟩ : ∃ nb, nb = w4.heap.size := ⟨_, rfl⟩
  have L4 : Aside0 (w.heap.size ≤ nb) := ⟨by rw [hnb]; exact QB.out.size⟩
  have L7 : Aside0 (n7 < nb) := ⟨by rw [hnb]; exact M7.out.lt⟩
  have L8 : Aside0 (n8 < nb) := ⟨by rw [hnb]; exact M8.out.lt⟩
  have S0 : Aside0 (Below nb w4 w4) := ⟨Below.refl _ _⟩
  have HNB := Aside0.mk hnb
  clear hnb
  refine wp_region_held_drew (S := fun W' => Below nb w4 W') (by kernel_rfl) (below_drew1 S0.out) (fun S0 => ?_)
  generalize w4.drew = w5 at *
  refine wpAnyH_take (i := 0) (v := ?_) rfl (by kernel_rfl) (by kernel_rfl) (by kernel_rfl) (fun _ _ _ h => h) (Or.inl ⟨by rfl, ?_⟩) S0 ?_
  rotate_left
  · intro w hSw; go_simp
    all_goals with_reducible rfl
  try simp only [Act.put, List.getElem_toArray, List.getElem_cons_zero, List.setIfInBounds_toArray, List.set_cons_zero, List.set_cons_succ]
  refine wpAnyH_take (i := 1) (v := ?_) rfl (by kernel_rfl) (by kernel_rfl) (by kernel_rfl) (fun _ _ _ h => h) (Or.inl ⟨by rfl, ?_⟩) S0 ?_
  rotate_left
  · intro w hSw; go_simp
    all_goals with_reducible rfl
  try simp only [Act.put, List.getElem_toArray, List.getElem_cons_zero, List.getElem_cons_succ, List.setIfInBounds_toArray, List.set_cons_zero, List.set_cons_succ]
  refine wpAnyH_take (i := 3) rfl (by kernel_rfl) (by kernel_rfl) (by kernel_rfl) (fun _ _ _ h => h) (yieldsIf_load_mid (by rfl) 32 _ rfl n7 0 rfl (TG.map (Value.int .u8)) _ (fun w s => range8_of (M7.out.below s L7.out)) Try.underlying32 rfl (by rw [List.length_map, HTL.out]; kernel_rfl)) S0 ?_
  try simp only [Act.put, List.getElem_toArray, List.getElem_cons_zero, List.getElem_cons_succ, List.setIfInBounds_toArray, List.set_cons_zero, List.set_cons_succ]
  refine wpAnyH_ready (rs := [2]) (by kernel_rfl) (by simp) ?_
  refine AllReadyH.cons rfl (fun K_ hK => ?_) AllReadyH.nil
  rw [if_pos (show _ = true by kernel_rfl)]
  go_simp
  go_at_call 23
  refine (xmtag_any (some ⟨n8, 0, none⟩) 64 64 K A1 c1 l1 _ HKL.out (by have h := C_of_blk8 (M8.out.below S0 L8.out) (by rw [HKL.out]; decide); rw [HKL.out] at h; exact h) (Nat.le_refl _) (by rw [HKL.out]; decide) HKB.out (Kd.C_below (Kd.C_below HR1.out QB.out) (by rw [← HNB.out]; exact S0)) HC1.out (by have := HL1.out; omega) HBY1.out).mono ?_
  rintro e w6 ⟨rfl, hb⟩
  rw [HTK.out]
  replace S0 := S0.trans (hb.mono (by have := S0.size; rw [← HNB.out] at this; exact this))
  clear hb
  go_wp2_with fail
  refine hK.out _ _ S0 (fun _ => ?_)
  clear hK K_
  try simp only [Act.put, List.getElem_toArray, List.getElem_cons_zero, List.getElem_cons_succ, List.setIfInBounds_toArray, List.set_cons_zero, List.set_cons_succ]
  refine wpAnyH_take (i := 4) (v := ?_) rfl (by kernel_rfl) (by kernel_rfl) (by kernel_rfl) (fun _ _ _ h => h) (Or.inl ⟨by rfl, ?_⟩) S0 ?_
  rotate_left
  · intro w hSw; go_simp
    all_goals with_reducible rfl
  try simp only [Act.put, List.getElem_toArray, List.getElem_cons_zero, List.getElem_cons_succ, List.setIfInBounds_toArray, List.set_cons_zero, List.set_cons_succ]
  refine wpAnyH_take (i := 5) (v := ?_) rfl (by kernel_rfl) (by kernel_rfl) (by kernel_rfl) (fun _ _ _ h => h) (Or.inl ⟨by rfl, ?_⟩) S0 ?_
  rotate_left
  · intro w hSw; go_simp
    all_goals with_reducible rfl
  try simp only [Act.put, List.getElem_toArray, List.getElem_cons_zero, List.getElem_cons_succ, List.setIfInBounds_toArray, List.set_cons_zero, List.set_cons_succ]
  refine wpAnyH_take (i := 6) (v := ?_) rfl (by kernel_rfl) (by kernel_rfl) (by kernel_rfl) (fun _ _ _ h => h) (Or.inl ⟨by rfl, ?_⟩) S0 ?_
  rotate_left
  · intro w hSw; go_simp
    all_goals with_reducible rfl
  try simp only [Act.put, List.getElem_toArray, List.getElem_cons_zero, List.getElem_cons_succ, List.setIfInBounds_toArray, List.set_cons_zero, List.set_cons_succ]
  refine wpAnyH_take (i := 8) rfl (by kernel_rfl) (by kernel_rfl) (by kernel_rfl) (fun _ _ _ h => h) (yieldsIf_load_mid (by rfl) 41 _ rfl n8 0 rfl (K.map (Value.int .u8)) _ (fun w s => range8_of (M8.out.below s L8.out)) Try.underlying41 rfl (by rw [List.length_map, HKL.out]; kernel_rfl)) S0 ?_
  try simp only [Act.put, List.getElem_toArray, List.getElem_cons_zero, List.getElem_cons_succ, List.setIfInBounds_toArray, List.set_cons_zero, List.set_cons_succ]
  refine wpAnyH_ready (rs := [7]) (by kernel_rfl) (by simp) ?_
  refine AllReadyH.cons rfl (fun K_ hK => ?_) AllReadyH.nil
  rw [if_pos (show _ = true by kernel_rfl)]
  go_simp
  go_at_call 25
  refine (xmblock_any (some ⟨n8, 0, none⟩) 64 64 K _ HKL.out (by have h := C_of_blk8 (M8.out.below S0 L8.out) (by rw [HKL.out]; decide); rw [HKL.out] at h; exact h) (Nat.le_refl _) (by rw [HKL.out]; decide) HKB.out).mono ?_
  rintro e w7 ⟨rfl, hb⟩
  rw [HBK.out]
  replace S0 := S0.trans (hb.mono (by have := S0.size; rw [← HNB.out] at this; exact this))
  clear hb
  go_wp2_with fail
  refine hK.out _ _ S0 (fun _ => ?_)
  clear hK K_
  try simp only [Act.put, List.getElem_toArray, List.getElem_cons_zero, List.getElem_cons_succ, List.setIfInBounds_toArray, List.set_cons_zero, List.set_cons_succ]
  refine wpAnyH_take (i := 9) (v := ?_) rfl (by kernel_rfl) (by kernel_rfl) (by kernel_rfl) (fun _ _ _ h => h) (Or.inl ⟨by rfl, ?_⟩) S0 ?_
  rotate_left
  · intro w hSw; go_simp
    all_goals with_reducible rfl
  try simp only [Act.put, List.getElem_toArray, List.getElem_cons_zero, List.getElem_cons_succ, List.setIfInBounds_toArray, List.set_cons_zero, List.set_cons_succ]
  refine wpAnyH_take (i := 10) (v := ?_) rfl (by kernel_rfl) (by kernel_rfl) (by kernel_rfl) (fun _ _ _ h => h) (Or.inl ⟨by rfl, ?_⟩) S0 ?_
  rotate_left
  · intro w hSw; go_simp
    all_goals with_reducible rfl
  try simp only [Act.put, List.getElem_toArray, List.getElem_cons_zero, List.getElem_cons_succ, List.setIfInBounds_toArray, List.set_cons_zero, List.set_cons_succ]
  refine wpAnyH_done (by kernel_rfl) ?_ _
  have S8 := Aside0.mk S0
  clear S0
  by_cases h64 : 64 < l0.length
  · have hi : (l0.length : Int) > 64 := by omega
    obtain ⟨SR, hSR⟩ : ∃ SR, SR = sumR l0 := ⟨_, rfl⟩
    have HSL : Aside0 (SR.length = 32) := ⟨by rw [hSR]; exact sumR_len _⟩
    have HSB : Aside0 (IsBytes SR) := ⟨by rw [hSR]; exact sumR_isBytes _⟩
    have HTS : Aside0 (tagR SR l1 = TG) := ⟨by rw [hSR, HTG.out]; exact tagR_alike (blkL_sum h64) l1⟩
    have HSE := Aside0.mk hSR
    clear hSR h64
    go_upto_region 9 with (first
      | (go_at_call 17; refine (sum_any A0 c0 l0 _ (Kd.C_below (Kd.C_below HR.out QB.out) (by rw [← HNB.out]; exact S8.out)) HC.out (by have := HL.out; omega) HBY.out).mono ?_; rintro e w8 ⟨rfl, hb⟩; rw [← HSE.out]; have T8 := Aside0.mk (S8.out.trans (hb.mono (by have := S8.out.size; rw [← HNB.out] at this; exact this))); clear hb S8)
      | (refine wpList_store_blk rfl 32 (.tmp 9) (.tmp 40) rfl w8.heap.size (bytesA SR) rfl rfl 32 _ (Blk.new w8 _ _) (by rw [bytes_size, HSL.out]; kernel_rfl) (by rw [bytes_size, HSL.out]; try rfl) (bytes_one _) ?_; intro w9 hv hg; have B9 := Aside0.mk hv; have T9 := Aside0.mk (below_grown (T8.out.alloc (by have := T8.out.size; rw [← HNB.out] at this; exact this) _) hg (by have := T8.out.size; rw [← HNB.out] at this; exact this) (by have := T8.out.size; rw [← HNB.out] at this; simp only [World.size_alloc]; omega)); clear hv hg T8))
    obtain ⟨n9, hn9⟩ : ∃ n, n = w8.heap.size := ⟨_, rfl⟩
    rw [← hn9] at B9
    try rw [← hn9]
    clear hn9 hi
    have HW : Aside0 (Below nb w4 w9.drew) := ⟨below_drew1 T9.out⟩
    have D9 : Aside0 (Blk w9.drew n9 (bytesA SR) 32) := ⟨B9.out⟩
    refine wp_region_held_drew (S := fun W' => Below nb w4 W') (by kernel_rfl) HW.out (fun S0 => ?_)
    generalize w9.drew = w10 at *
    clear T9 B9 HW
    refine wpAnyH_ready (rs := [0]) (by kernel_rfl) (by simp) ?_
    refine AllReadyH.cons rfl (fun K_ hK => ?_) AllReadyH.nil
    rw [if_pos (show _ = true by kernel_rfl)]
    go_simp
    go_at_call 22
    refine (tagged_calls _).mono ?_
    rintro e w21 ⟨rfl, hb⟩
    have E9 := Aside0.mk (D9.out.below hb D9.out.lt)
    replace S0 := S0.trans (hb.mono (by have := S0.size; rw [← HNB.out] at this; exact this))
    clear hb
    go_wp2_with fail
    refine hK.out _ _ S0 (fun _ => ?_)
    clear hK K_
    try simp only [Act.put, List.getElem_toArray, List.getElem_cons_zero, List.getElem_cons_succ, List.setIfInBounds_toArray, List.set_cons_zero, List.set_cons_succ]
    refine wpAnyH_take (i := 1) (v := ?_) rfl (by kernel_rfl) (by kernel_rfl) (by kernel_rfl) (fun _ _ _ h => h) (Or.inl ⟨by rfl, ?_⟩) S0 ?_
    rotate_left
    · intro w hSw; go_simp
      all_goals with_reducible rfl
    try simp only [Act.put, List.getElem_toArray, List.getElem_cons_zero, List.getElem_cons_succ, List.setIfInBounds_toArray, List.set_cons_zero, List.set_cons_succ]
    refine wpAnyH_take (i := 2) (v := ?_) rfl (by kernel_rfl) (by kernel_rfl) (by kernel_rfl) (fun _ _ _ h => h) (Or.inl ⟨by rfl, ?_⟩) S0 ?_
    rotate_left
    · intro w hSw; go_simp
      all_goals with_reducible rfl
    try simp only [Act.put, List.getElem_toArray, List.getElem_cons_zero, List.getElem_cons_succ, List.setIfInBounds_toArray, List.set_cons_zero, List.set_cons_succ]
    refine wpAnyH_take (i := 3) (v := ?_) rfl (by kernel_rfl) (by kernel_rfl) (by kernel_rfl) (fun _ _ _ h => h) (Or.inl ⟨by rfl, ?_⟩) S0 ?_
    rotate_left
    · intro w hSw; go_simp
      all_goals with_reducible rfl
    try simp only [Act.put, List.getElem_toArray, List.getElem_cons_zero, List.getElem_cons_succ, List.setIfInBounds_toArray, List.set_cons_zero, List.set_cons_succ]
    refine wpAnyH_take (i := 5) rfl (by kernel_rfl) (by kernel_rfl) (by kernel_rfl) (fun _ _ _ h => h) (yieldsIf_load_mid (by rfl) 32 _ rfl n7 0 rfl (TG.map (Value.int .u8)) _ (fun w s => range8_of (M7.out.below s L7.out)) Try.underlying32 rfl (by rw [List.length_map, HTL.out]; kernel_rfl)) S0 ?_
    try simp only [Act.put, List.getElem_toArray, List.getElem_cons_zero, List.getElem_cons_succ, List.setIfInBounds_toArray, List.set_cons_zero, List.set_cons_succ]
    refine wpAnyH_ready (rs := [4]) (by kernel_rfl) (by simp) ?_
    refine AllReadyH.cons rfl (fun K_ hK => ?_) AllReadyH.nil
    rw [if_pos (show _ = true by kernel_rfl)]
    go_simp
    go_at_call 23
    refine (xmtag_any (some ⟨n9, 0, none⟩) 32 32 SR A1 c1 l1 _ HSL.out (by have h := C_of_blk8 E9.out (by rw [HSL.out]; decide); rw [HSL.out] at h; exact h) (Nat.le_refl _) (by rw [HSL.out]; decide) HSB.out (Kd.C_below (Kd.C_below HR1.out QB.out) (by rw [← HNB.out]; exact S0)) HC1.out (by have := HL1.out; omega) HBY1.out).mono ?_
    rintro e w22 ⟨rfl, hb⟩
    rw [HTS.out]
    replace S0 := S0.trans (hb.mono (by have := S0.size; rw [← HNB.out] at this; exact this))
    clear hb
    go_wp2_with fail
    refine hK.out _ _ S0 (fun _ => ?_)
    clear hK K_
    try simp only [Act.put, List.getElem_toArray, List.getElem_cons_zero, List.getElem_cons_succ, List.setIfInBounds_toArray, List.set_cons_zero, List.set_cons_succ]
    refine wpAnyH_take (i := 6) (v := ?_) rfl (by kernel_rfl) (by kernel_rfl) (by kernel_rfl) (fun _ _ _ h => h) (Or.inl ⟨by rfl, ?_⟩) S0 ?_
    rotate_left
    · intro w hSw; go_simp
      all_goals with_reducible rfl
    try simp only [Act.put, List.getElem_toArray, List.getElem_cons_zero, List.getElem_cons_succ, List.setIfInBounds_toArray, List.set_cons_zero, List.set_cons_succ]
    refine wpAnyH_take (i := 7) (v := ?_) rfl (by kernel_rfl) (by kernel_rfl) (by kernel_rfl) (fun _ _ _ h => h) (Or.inl ⟨by rfl, ?_⟩) S0 ?_
    rotate_left
    · intro w hSw; go_simp
      all_goals with_reducible rfl
    try simp only [Act.put, List.getElem_toArray, List.getElem_cons_zero, List.getElem_cons_succ, List.setIfInBounds_toArray, List.set_cons_zero, List.set_cons_succ]
    refine wpAnyH_take (i := 8) (v := ?_) rfl (by kernel_rfl) (by kernel_rfl) (by kernel_rfl) (fun _ _ _ h => h) (Or.inl ⟨by rfl, ?_⟩) S0 ?_
    rotate_left
    · intro w hSw; go_simp
      all_goals with_reducible rfl
    try simp only [Act.put, List.getElem_toArray, List.getElem_cons_zero, List.getElem_cons_succ, List.setIfInBounds_toArray, List.set_cons_zero, List.set_cons_succ]
    refine wpAnyH_done (by kernel_rfl) ?_ _
    go_wp2
    go_ret
    exact ⟨rfl, QB.out.trans (S0.mono L4.out)⟩
  · have hi : ¬ (l0.length : Int) > 64 := by omega
    have H64 : Aside0 (l0.length ≤ 64) := ⟨by omega⟩
    clear h64
    have S8X : Aside0 (nb ≤ w7.heap.size ∧ Below nb w4 w7) := ⟨by have := S8.out.size; rw [← HNB.out] at this; exact this, S8.out⟩
    clear S8
    go_wp2_with (first
      | ((with_reducible refine gate_dst (N := 49) rfl ?_); refine Kd.R_lit (Kd.int .u8) (w0 := w4) nb 5 ?hg (N := 49) ?hd (xs := ([] : List Int)) (inner := []) (ok := fun _ => True) (okp := fun _ => True) ?hr ?hp (fun _ hk => hk) trivial S8X.out.2 (by exact S8X.out.1) (by simp) ?_; (case hd => rfl); (case hg => rfl); (case hr => first | (go_simp; done) | (go_simp; rfl)); (case hp => exact (Reps.none _ _)); intro u9 w9 ho hb hg hnew; have S9 := Aside0.mk (show LW nb w4 w9 [] u9 from ⟨ho, hb, Nat.le_trans S8X.out.1 hg.size⟩); clear ho hb hg hnew)
      | ((with_reducible refine gate_builtin (b := .append) (xs := #[.tmp 50, .tmp 51]) rfl ?_); at_builtin; refine Kd.R_append_rows (Kd.int .u8) (w0 := w4) nb rfl (.tmp 50) (.tmp 51) 22 5 (.int .u8 0) 1 rfl Try.underlying22 info5 rfl (by decide) (by omega) u9 ([] : List Int) l0 A0 l0.length c0 (fun _ => True) (fun _ => False) rfl rfl S9.out.r (Kd.C_below (Kd.C_below HR.out QB.out) (by rw [← HNB.out]; exact S9.out.hb)) (fun _ _ h => h) (fun _ h => h.elim) (fun _ _ => trivial) S9.out.hb S9.out.hs (by have := HL.out; simp only [List.length_nil]; omega) ?_; intro u11 w11 ho hb hg hat; have S11 := Aside0.mk (show LW nb w4 w11 l0 u11 from ⟨ho, hb, Nat.le_trans S9.out.hs hg.size⟩); clear ho hb hg hat S9))
    go_loopw [10, 11] (fun v10 v11 wr => ∃ j : Nat, v11 = .int .i64 j ∧ Aside0 (l0.length + j ≤ 64) ∧ Aside0 (LW nb w4 wr (l0 ++ List.replicate j 0) v10)) (fun _ v11 _ => 64 - (intOf v11).toNat)
    case atStart => exact ⟨0, rfl, H64, by rw [List.replicate_zero, List.append_nil]; exact S11⟩
    case round =>
      clear S11
      obtain ⟨j, rfl, HJ, S⟩ := hrel
      obtain ⟨A, c, rfl, RL, RC⟩ := Kd.R_reads S.out.r
      obtain ⟨N, hN⟩ : ∃ N, N = (l0 ++ List.replicate j 0).length := ⟨_, rfl⟩
      have HNJ : Aside0 (N = l0.length + j) := ⟨by rw [hN, List.length_append, List.length_replicate]⟩
      rw [← hN] at RL RC S
      try rw [← hN]
      have HN := Aside0.mk hN
      have RL0 := Aside0.mk RL
      have RC0 := Aside0.mk RC
      have HT0 : Aside0 (tagR (l0 ++ List.replicate j 0) l1 = TG) := ⟨by rw [HTG.out]; exact tagR_alike (blkL_zeros j HJ.out) l1⟩
      clear hN RL RC
      by_cases hin : (j : Int) < n
      · by_cases hn64 : (N : Int) < 64
        · have HN64 := Aside0.mk hn64
          have hj0 : (0 : Int) ≤ j := Int.natCast_nonneg _
          have hj64 : (j : Int) < 64 := by have := HNJ.out; omega
          go_wp2_with (first
            | ((with_reducible refine gate_builtin (b := .append) (xs := #[.tmp 63, .tmp 64]) rfl ?_); at_builtin; refine Kd.R_append (Kd.int .u8) (w0 := w4) nb rfl (.tmp 63) (.tmp 64) 22 5 (.int .u8 0) 1 rfl Try.underlying22 info5 rfl (by decide) (by omega) (.slice A N c) (l0 ++ List.replicate j 0) 0 [.int .u8 0] (fun _ => True) (fun _ => False) rfl rfl rfl (fun _ hk => hk.elim) (fun _ _ => trivial) S.out.r S.out.hb S.out.hs (by rw [← HN.out, HNJ.out]; have := HJ.out; omega) ?_; intro u65 w65 ho hb hg hat; rw [zeros_next] at ho; have S1 := Aside0.mk (show LW nb w4 w65 _ u65 from ⟨ho, hb, Nat.le_trans S.out.hs hg.size⟩); clear ho hb hg hat S))
          go_roundw
          case measure => have := HNJ.out; have := HN64.out; simp [intOf]; omega
          case rel => exact ⟨j + 1, by simp, ⟨by have := HNJ.out; have := HN64.out; omega⟩, S1⟩
        · go_upto_region 16 with (first | fail)
          have T16 := S.out.hb
          have HW : Aside0 (Below nb w4 wr.drew) := ⟨below_drew1 T16⟩
          have D16 : Aside0 (Kd.C (Kd.int .u8) wr.drew A N (l0 ++ List.replicate j 0)) := ⟨Kd.C_below RC0.out (below_drew1 (Below.refl _ _))⟩
          clear T16 RC0 S
          refine wp_region_held_drew (S := fun W' => Below nb w4 W') (by kernel_rfl) HW.out (fun S0 => ?_)
          generalize wr.drew = w20 at *
          clear HW
          refine wpAnyH_ready (rs := [0]) (by kernel_rfl) (by simp) ?_
          refine AllReadyH.cons rfl (fun K_ hK => ?_) AllReadyH.nil
          rw [if_pos (show _ = true by kernel_rfl)]
          go_simp
          go_at_call 22
          refine (tagged_calls _).mono ?_
          rintro e w21 ⟨rfl, hb⟩
          have E16 := Aside0.mk (Kd.C_below D16.out hb)
          replace S0 := S0.trans (hb.mono (by have := S0.size; rw [← HNB.out] at this; exact this))
          clear hb
          go_wp2_with fail
          refine hK.out _ _ S0 (fun _ => ?_)
          clear hK K_
          try simp only [Act.put, List.getElem_toArray, List.getElem_cons_zero, List.getElem_cons_succ, List.setIfInBounds_toArray, List.set_cons_zero, List.set_cons_succ]
          refine wpAnyH_take (i := 1) (v := ?_) rfl (by kernel_rfl) (by kernel_rfl) (by kernel_rfl) (fun _ _ _ h => h) (Or.inl ⟨by rfl, ?_⟩) S0 ?_
          rotate_left
          · intro w hSw; go_simp
            all_goals with_reducible rfl
          try simp only [Act.put, List.getElem_toArray, List.getElem_cons_zero, List.getElem_cons_succ, List.setIfInBounds_toArray, List.set_cons_zero, List.set_cons_succ]
          refine wpAnyH_take (i := 2) (v := ?_) rfl (by kernel_rfl) (by kernel_rfl) (by kernel_rfl) (fun _ _ _ h => h) (Or.inl ⟨by rfl, ?_⟩) S0 ?_
          rotate_left
          · intro w hSw; go_simp
            all_goals with_reducible rfl
          try simp only [Act.put, List.getElem_toArray, List.getElem_cons_zero, List.getElem_cons_succ, List.setIfInBounds_toArray, List.set_cons_zero, List.set_cons_succ]
          refine wpAnyH_take (i := 3) (v := ?_) rfl (by kernel_rfl) (by kernel_rfl) (by kernel_rfl) (fun _ _ _ h => h) (Or.inl ⟨by rfl, ?_⟩) S0 ?_
          rotate_left
          · intro w hSw; go_simp
            all_goals with_reducible rfl
          try simp only [Act.put, List.getElem_toArray, List.getElem_cons_zero, List.getElem_cons_succ, List.setIfInBounds_toArray, List.set_cons_zero, List.set_cons_succ]
          refine wpAnyH_take (i := 5) rfl (by kernel_rfl) (by kernel_rfl) (by kernel_rfl) (fun _ _ _ h => h) (yieldsIf_load_mid (by rfl) 32 _ rfl n7 0 rfl (TG.map (Value.int .u8)) _ (fun w s => range8_of (M7.out.below s L7.out)) Try.underlying32 rfl (by rw [List.length_map, HTL.out]; kernel_rfl)) S0 ?_
          try simp only [Act.put, List.getElem_toArray, List.getElem_cons_zero, List.getElem_cons_succ, List.setIfInBounds_toArray, List.set_cons_zero, List.set_cons_succ]
          refine wpAnyH_ready (rs := [4]) (by kernel_rfl) (by simp) ?_
          refine AllReadyH.cons rfl (fun K_ hK => ?_) AllReadyH.nil
          rw [if_pos (show _ = true by kernel_rfl)]
          go_simp
          go_at_call 23
          refine (xmtag_any A c N (l0 ++ List.replicate j 0) A1 c1 l1 _ HN.out.symm E16.out RL0.out (by rw [← HN.out, HNJ.out]; have := HJ.out; omega) (zeros_isBytes HBY.out j) (Kd.C_below (Kd.C_below HR1.out QB.out) (by rw [← HNB.out]; exact S0)) HC1.out (by have := HL1.out; omega) HBY1.out).mono ?_
          rintro e w22 ⟨rfl, hb⟩
          rw [HT0.out]
          replace S0 := S0.trans (hb.mono (by have := S0.size; rw [← HNB.out] at this; exact this))
          clear hb
          go_wp2_with fail
          refine hK.out _ _ S0 (fun _ => ?_)
          clear hK K_
          try simp only [Act.put, List.getElem_toArray, List.getElem_cons_zero, List.getElem_cons_succ, List.setIfInBounds_toArray, List.set_cons_zero, List.set_cons_succ]
          refine wpAnyH_take (i := 6) (v := ?_) rfl (by kernel_rfl) (by kernel_rfl) (by kernel_rfl) (fun _ _ _ h => h) (Or.inl ⟨by rfl, ?_⟩) S0 ?_
          rotate_left
          · intro w hSw; go_simp
            all_goals with_reducible rfl
          try simp only [Act.put, List.getElem_toArray, List.getElem_cons_zero, List.getElem_cons_succ, List.setIfInBounds_toArray, List.set_cons_zero, List.set_cons_succ]
          refine wpAnyH_take (i := 7) (v := ?_) rfl (by kernel_rfl) (by kernel_rfl) (by kernel_rfl) (fun _ _ _ h => h) (Or.inl ⟨by rfl, ?_⟩) S0 ?_
          rotate_left
          · intro w hSw; go_simp
            all_goals with_reducible rfl
          try simp only [Act.put, List.getElem_toArray, List.getElem_cons_zero, List.getElem_cons_succ, List.setIfInBounds_toArray, List.set_cons_zero, List.set_cons_succ]
          refine wpAnyH_take (i := 8) (v := ?_) rfl (by kernel_rfl) (by kernel_rfl) (by kernel_rfl) (fun _ _ _ h => h) (Or.inl ⟨by rfl, ?_⟩) S0 ?_
          rotate_left
          · intro w hSw; go_simp
            all_goals with_reducible rfl
          try simp only [Act.put, List.getElem_toArray, List.getElem_cons_zero, List.getElem_cons_succ, List.setIfInBounds_toArray, List.set_cons_zero, List.set_cons_succ]
          refine wpAnyH_done (by kernel_rfl) ?_ _
          go_wp2
          go_ret
          exact ⟨rfl, QB.out.trans (S0.mono L4.out)⟩
      · go_upto_region 16 with (first | fail)
        have T16 := S.out.hb
        have HW : Aside0 (Below nb w4 wr.drew) := ⟨below_drew1 T16⟩
        have D16 : Aside0 (Kd.C (Kd.int .u8) wr.drew A N (l0 ++ List.replicate j 0)) := ⟨Kd.C_below RC0.out (below_drew1 (Below.refl _ _))⟩
        clear T16 RC0 S
        refine wp_region_held_drew (S := fun W' => Below nb w4 W') (by kernel_rfl) HW.out (fun S0 => ?_)
        generalize wr.drew = w20 at *
        clear HW
        refine wpAnyH_ready (rs := [0]) (by kernel_rfl) (by simp) ?_
        refine AllReadyH.cons rfl (fun K_ hK => ?_) AllReadyH.nil
        rw [if_pos (show _ = true by kernel_rfl)]
        go_simp
        go_at_call 22
        refine (tagged_calls _).mono ?_
        rintro e w21 ⟨rfl, hb⟩
        have E16 := Aside0.mk (Kd.C_below D16.out hb)
        replace S0 := S0.trans (hb.mono (by have := S0.size; rw [← HNB.out] at this; exact this))
        clear hb
        go_wp2_with fail
        refine hK.out _ _ S0 (fun _ => ?_)
        clear hK K_
        try simp only [Act.put, List.getElem_toArray, List.getElem_cons_zero, List.getElem_cons_succ, List.setIfInBounds_toArray, List.set_cons_zero, List.set_cons_succ]
        refine wpAnyH_take (i := 1) (v := ?_) rfl (by kernel_rfl) (by kernel_rfl) (by kernel_rfl) (fun _ _ _ h => h) (Or.inl ⟨by rfl, ?_⟩) S0 ?_
        rotate_left
        · intro w hSw; go_simp
          all_goals with_reducible rfl
        try simp only [Act.put, List.getElem_toArray, List.getElem_cons_zero, List.getElem_cons_succ, List.setIfInBounds_toArray, List.set_cons_zero, List.set_cons_succ]
        refine wpAnyH_take (i := 2) (v := ?_) rfl (by kernel_rfl) (by kernel_rfl) (by kernel_rfl) (fun _ _ _ h => h) (Or.inl ⟨by rfl, ?_⟩) S0 ?_
        rotate_left
        · intro w hSw; go_simp
          all_goals with_reducible rfl
        try simp only [Act.put, List.getElem_toArray, List.getElem_cons_zero, List.getElem_cons_succ, List.setIfInBounds_toArray, List.set_cons_zero, List.set_cons_succ]
        refine wpAnyH_take (i := 3) (v := ?_) rfl (by kernel_rfl) (by kernel_rfl) (by kernel_rfl) (fun _ _ _ h => h) (Or.inl ⟨by rfl, ?_⟩) S0 ?_
        rotate_left
        · intro w hSw; go_simp
          all_goals with_reducible rfl
        try simp only [Act.put, List.getElem_toArray, List.getElem_cons_zero, List.getElem_cons_succ, List.setIfInBounds_toArray, List.set_cons_zero, List.set_cons_succ]
        refine wpAnyH_take (i := 5) rfl (by kernel_rfl) (by kernel_rfl) (by kernel_rfl) (fun _ _ _ h => h) (yieldsIf_load_mid (by rfl) 32 _ rfl n7 0 rfl (TG.map (Value.int .u8)) _ (fun w s => range8_of (M7.out.below s L7.out)) Try.underlying32 rfl (by rw [List.length_map, HTL.out]; kernel_rfl)) S0 ?_
        try simp only [Act.put, List.getElem_toArray, List.getElem_cons_zero, List.getElem_cons_succ, List.setIfInBounds_toArray, List.set_cons_zero, List.set_cons_succ]
        refine wpAnyH_ready (rs := [4]) (by kernel_rfl) (by simp) ?_
        refine AllReadyH.cons rfl (fun K_ hK => ?_) AllReadyH.nil
        rw [if_pos (show _ = true by kernel_rfl)]
        go_simp
        go_at_call 23
        refine (xmtag_any A c N (l0 ++ List.replicate j 0) A1 c1 l1 _ HN.out.symm E16.out RL0.out (by rw [← HN.out, HNJ.out]; have := HJ.out; omega) (zeros_isBytes HBY.out j) (Kd.C_below (Kd.C_below HR1.out QB.out) (by rw [← HNB.out]; exact S0)) HC1.out (by have := HL1.out; omega) HBY1.out).mono ?_
        rintro e w22 ⟨rfl, hb⟩
        rw [HT0.out]
        replace S0 := S0.trans (hb.mono (by have := S0.size; rw [← HNB.out] at this; exact this))
        clear hb
        go_wp2_with fail
        refine hK.out _ _ S0 (fun _ => ?_)
        clear hK K_
        try simp only [Act.put, List.getElem_toArray, List.getElem_cons_zero, List.getElem_cons_succ, List.setIfInBounds_toArray, List.set_cons_zero, List.set_cons_succ]
        refine wpAnyH_take (i := 6) (v := ?_) rfl (by kernel_rfl) (by kernel_rfl) (by kernel_rfl) (fun _ _ _ h => h) (Or.inl ⟨by rfl, ?_⟩) S0 ?_
        rotate_left
        · intro w hSw; go_simp
          all_goals with_reducible rfl
        try simp only [Act.put, List.getElem_toArray, List.getElem_cons_zero, List.getElem_cons_succ, List.setIfInBounds_toArray, List.set_cons_zero, List.set_cons_succ]
        refine wpAnyH_take (i := 7) (v := ?_) rfl (by kernel_rfl) (by kernel_rfl) (by kernel_rfl) (fun _ _ _ h => h) (Or.inl ⟨by rfl, ?_⟩) S0 ?_
        rotate_left
        · intro w hSw; go_simp
          all_goals with_reducible rfl
        try simp only [Act.put, List.getElem_toArray, List.getElem_cons_zero, List.getElem_cons_succ, List.setIfInBounds_toArray, List.set_cons_zero, List.set_cons_succ]
        refine wpAnyH_take (i := 8) (v := ?_) rfl (by kernel_rfl) (by kernel_rfl) (by kernel_rfl) (fun _ _ _ h => h) (Or.inl ⟨by rfl, ?_⟩) S0 ?_
        rotate_left
        · intro w hSw; go_simp
          all_goals with_reducible rfl
        try simp only [Act.put, List.getElem_toArray, List.getElem_cons_zero, List.getElem_cons_succ, List.setIfInBounds_toArray, List.set_cons_zero, List.set_cons_succ]
        refine wpAnyH_done (by kernel_rfl) ?_ _
        go_wp2
        go_ret
        exact ⟨rfl, QB.out.trans (S0.mono L4.out)⟩
end Go.Proofs.Ytbakfengmehkkaa.G
