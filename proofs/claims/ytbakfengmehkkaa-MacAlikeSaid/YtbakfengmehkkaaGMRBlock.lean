/- The walk of gatelineref03.Block (written by gen_mref.py). -/
import Derived.Test.YtbakfengmehkkaaGMTag
namespace Go.Proofs.Ytbakfengmehkkaa.G
open Go Go.RowKit Go.Proofs.Ytbakfengmehkkaa.PL Go.Proofs.Ytbakfengmehkkaa.Q Go.Proofs.YtbakfengmehkkaaW.PrintWords Go.Proofs.YtbakfengmehkkaaW.PrintLast Go.Proofs.YtbakfengmehkkaaW.PrintMore
theorem zero_step (T L : List Int) (i : Nat) (hl : L = T.take i ++ List.replicate (64 - i) 0) (hi : i < T.length) (h64 : i < 64) : L.set i (T.getD i 0) = T.take (i + 1) ++ List.replicate (64 - (i + 1)) 0 := by
  subst hl
  have h1 : (T.take i).length = i := by rw [List.length_take]; omega
  rw [List.set_append_right _ _ (by omega), h1, Nat.sub_self, show 64 - i = (64 - (i + 1)) + 1 by omega, List.replicate_succ, List.set_cons_zero, List.take_add_one, List.getElem?_eq_getElem hi, List.getD_eq_getElem?_getD, List.getElem?_eq_getElem hi, List.append_assoc]
  rfl
set_option maxRecDepth 100000 in
set_option maxHeartbeats 4000000 in
theorem mrblock_any (A0 : Option Addr) (c0 : Nat) (l0 : List Int) (w : World) (hr : Kd.C (Kd.int .u8) w A0 l0.length l0) (hc : l0.length ≤ c0) (hl : l0.length ≤ 100000) (hb : IsBytes l0) :
    Calls Try.prog 26 #[.slice A0 l0.length c0] w fun e w' => e = .returned (.agg (bytesA (blkL l0))) ∧ Below w.heap.size w w' := by
  have HR := Aside0.mk hr
  have HC := Aside0.mk hc
  have HL := Aside0.mk hl
  have HBY := Aside0.mk hb
  clear hr hc hl hb
  go_enter Try.func26, Try.ntmps26
  go_upto_region 1 with (first | (fail))
  have g2 : Blk (w.alloc (.cells #[.int .u8 0, .int .u8 0, .int .u8 0, .int .u8 0, .int .u8 0, .int .u8 0, .int .u8 0, .int .u8 0, .int .u8 0, .int .u8 0, .int .u8 0, .int .u8 0, .int .u8 0, .int .u8 0, .int .u8 0, .int .u8 0, .int .u8 0, .int .u8 0, .int .u8 0, .int .u8 0, .int .u8 0, .int .u8 0, .int .u8 0, .int .u8 0, .int .u8 0, .int .u8 0, .int .u8 0, .int .u8 0, .int .u8 0, .int .u8 0, .int .u8 0, .int .u8 0, .int .u8 0, .int .u8 0, .int .u8 0, .int .u8 0, .int .u8 0, .int .u8 0, .int .u8 0, .int .u8 0, .int .u8 0, .int .u8 0, .int .u8 0, .int .u8 0, .int .u8 0, .int .u8 0, .int .u8 0, .int .u8 0, .int .u8 0, .int .u8 0, .int .u8 0, .int .u8 0, .int .u8 0, .int .u8 0, .int .u8 0, .int .u8 0, .int .u8 0, .int .u8 0, .int .u8 0, .int .u8 0, .int .u8 0, .int .u8 0, .int .u8 0, .int .u8 0] 41)) w.heap.size (bytesA (List.replicate 64 0)) 41 := Blk.new w #[.int .u8 0, .int .u8 0, .int .u8 0, .int .u8 0, .int .u8 0, .int .u8 0, .int .u8 0, .int .u8 0, .int .u8 0, .int .u8 0, .int .u8 0, .int .u8 0, .int .u8 0, .int .u8 0, .int .u8 0, .int .u8 0, .int .u8 0, .int .u8 0, .int .u8 0, .int .u8 0, .int .u8 0, .int .u8 0, .int .u8 0, .int .u8 0, .int .u8 0, .int .u8 0, .int .u8 0, .int .u8 0, .int .u8 0, .int .u8 0, .int .u8 0, .int .u8 0, .int .u8 0, .int .u8 0, .int .u8 0, .int .u8 0, .int .u8 0, .int .u8 0, .int .u8 0, .int .u8 0, .int .u8 0, .int .u8 0, .int .u8 0, .int .u8 0, .int .u8 0, .int .u8 0, .int .u8 0, .int .u8 0, .int .u8 0, .int .u8 0, .int .u8 0, .int .u8 0, .int .u8 0, .int .u8 0, .int .u8 0, .int .u8 0, .int .u8 0, .int .u8 0, .int .u8 0, .int .u8 0, .int .u8 0, .int .u8 0, .int .u8 0, .int .u8 0] 41
  have gb := below_alloc (Below.refl w.heap.size w) (.cells #[.int .u8 0, .int .u8 0, .int .u8 0, .int .u8 0, .int .u8 0, .int .u8 0, .int .u8 0, .int .u8 0, .int .u8 0, .int .u8 0, .int .u8 0, .int .u8 0, .int .u8 0, .int .u8 0, .int .u8 0, .int .u8 0, .int .u8 0, .int .u8 0, .int .u8 0, .int .u8 0, .int .u8 0, .int .u8 0, .int .u8 0, .int .u8 0, .int .u8 0, .int .u8 0, .int .u8 0, .int .u8 0, .int .u8 0, .int .u8 0, .int .u8 0, .int .u8 0, .int .u8 0, .int .u8 0, .int .u8 0, .int .u8 0, .int .u8 0, .int .u8 0, .int .u8 0, .int .u8 0, .int .u8 0, .int .u8 0, .int .u8 0, .int .u8 0, .int .u8 0, .int .u8 0, .int .u8 0, .int .u8 0, .int .u8 0, .int .u8 0, .int .u8 0, .int .u8 0, .int .u8 0, .int .u8 0, .int .u8 0, .int .u8 0, .int .u8 0, .int .u8 0, .int .u8 0, .int .u8 0, .int .u8 0, .int .u8 0, .int .u8 0, .int .u8 0] 41)
  obtain ⟨n2, hn2⟩ : ∃ n, n = w.heap.size := ⟨_, rfl⟩
  have HN2 := Aside0.mk hn2
  generalize w.alloc (.cells #[.int .u8 0, .int .u8 0, .int .u8 0, .int .u8 0, .int .u8 0, .int .u8 0, .int .u8 0, .int .u8 0, .int .u8 0, .int .u8 0, .int .u8 0, .int .u8 0, .int .u8 0, .int .u8 0, .int .u8 0, .int .u8 0, .int .u8 0, .int .u8 0, .int .u8 0, .int .u8 0, .int .u8 0, .int .u8 0, .int .u8 0, .int .u8 0, .int .u8 0, .int .u8 0, .int .u8 0, .int .u8 0, .int .u8 0, .int .u8 0, .int .u8 0, .int .u8 0, .int .u8 0, .int .u8 0, .int .u8 0, .int .u8 0, .int .u8 0, .int .u8 0, .int .u8 0, .int .u8 0, .int .u8 0, .int .u8 0, .int .u8 0, .int .u8 0, .int .u8 0, .int .u8 0, .int .u8 0, .int .u8 0, .int .u8 0, .int .u8 0, .int .u8 0, .int .u8 0, .int .u8 0, .int .u8 0, .int .u8 0, .int .u8 0, .int .u8 0, .int .u8 0, .int .u8 0, .int .u8 0, .int .u8 0, .int .u8 0, .int .u8 0, .int .u8 0] 41) = U0 at *
  rw [← hn2] at g2 gb
  try rw [← hn2]
  clear hn2
  have G2 := Aside0.mk g2
  have GB := Aside0.mk gb
  clear g2 gb
  go_upto_region 2 with (first
    | (refine wpList_build_as rfl 41 _ rfl (bytesA (List.replicate 64 0)) (by as_aux_lemma => kernel_rfl) ?_)
    | (refine wpList_store_blk rfl 41 (.tmp 3) (.tmp 6) rfl U0.heap.size (bytesA (List.replicate 64 0)) rfl rfl 41 _ (Blk.new U0 _ _) (by kernel_rfl) rfl (by kernel_rfl) ?_; intro U1 hv hg; have SZ := Aside0.mk (show MB n2 U0.heap.size (List.replicate 64 0) (List.replicate 64 0) w U1 from ⟨(G2.out.alloc _).grown hg (by have := G2.out.lt; omega), hv, below_grown (GB.out.alloc (Nat.le_of_lt G2.out.lt) _) hg (Nat.le_of_lt G2.out.lt) (by have := G2.out.lt; simp only [World.size_alloc]; omega), G2.out.lt⟩); clear hv hg G2 GB))
  obtain ⟨n3, hn3⟩ : ∃ n, n = U0.heap.size := ⟨_, rfl⟩
  rw [← hn3] at SZ
  try rw [← hn3]
  clear hn3
  have H23 : Aside0 (n2 < n3) := ⟨SZ.out.lt⟩
  obtain ⟨T, hT⟩ : ∃ T, T = secR l0 := ⟨_, rfl⟩
  have HTE := Aside0.mk hT
  have HT64 : Aside0 (T.length ≤ 64) := ⟨by rw [hT]; exact secR_le l0⟩
  by_cases h64 : 64 < l0.length
  · have hi : (l0.length : Int) > 64 := by omega
    have HTS : Aside0 (T = sumR l0) := ⟨by rw [hT]; exact secR_long h64⟩
    have HTN : Aside0 (T.length = 32) := ⟨by rw [HTS.out, sumR_len]⟩
    clear h64 hT
    have HLP : Aside0 (l0.length ≤ 100000) := HL
    go_upto_region 5 with (first
      | (go_at_call 18; refine (rsum_any A0 c0 l0 _ (C_low HR.out (by rw [← HN2.out]; exact SZ.out.hb)) HC.out HL.out HBY.out).mono ?_; rintro e w5 ⟨rfl, hb5⟩; rw [← HTS.out]; have SY := Aside0.mk (SZ.out.below hb5); clear hb5 SZ)
      | (refine wpList_store_blk rfl 32 (.tmp 4) (.tmp 11) rfl w5.heap.size (bytesA T) rfl rfl 32 _ (Blk.new w5 _ _) (by rw [bytes_size, HTN.out]; kernel_rfl) (by rw [bytes_size, HTN.out]; try rfl) (bytes_one _) ?_; intro w6 hv6 hg6; have SX := Aside0.mk ((SY.out.alloc _).grown hg6 SY.out.h3.lt); have K6 := Aside0.mk hv6; have H36 := Aside0.mk (show n3 < w5.heap.size from SY.out.h3.lt); clear hv6 hg6 SY))
    obtain ⟨n4, hn4⟩ : ∃ n, n = w5.heap.size := ⟨_, rfl⟩
    rw [← hn4] at K6 H36
    try rw [← hn4]
    clear hn4 hi
    have K3 := Aside0.mk SX.out.h3
    have K2 := Aside0.mk SX.out.h2
    have KB := Aside0.mk SX.out.hb
    clear SX
    go_wp2
    go_loopw [5] (fun v5 wr => ∃ (i : Nat) (L : List Int), v5 = .int .i64 i ∧ Aside0 (i ≤ 32) ∧ Aside0 (L = T.take i ++ List.replicate (64 - i) 0) ∧ Aside0 (L.length = 64) ∧ Aside0 (Blk wr n3 (bytesA L) 41) ∧ Aside0 (Blk wr n2 (bytesA (List.replicate 64 0)) 41) ∧ Aside0 (Below n2 w wr) ∧ Aside0 (Blk wr n4 (bytesA T) 32)) (fun v5 _ => 32 - (intOf v5).toNat)
    case atStart => exact ⟨0, List.replicate 64 0, rfl, ⟨Nat.zero_le _⟩, ⟨by simp⟩, ⟨rfl⟩, K3, K2, KB, K6⟩
    case round =>
      clear K3 K2 KB
      obtain ⟨i, L, rfl, HI, HLM, HLL, S3, S2, SB, S4⟩ := hrel
      by_cases hi : i < 32
      · have hcl := S4.out.cell i _ (bytesA_at T i (by rw [HTN.out]; exact hi))
        have hi64 : i < 64 := by have := HT64.out; have := HTN.out; omega
        have hst := S3.out.cell i _ (bytesA_at L i (by rw [HLL.out]; exact hi64))
        have hset := zero_step T L i HLM.out (by rw [HTN.out]; exact hi) hi64
        have hfz := S3.out.frozen i
        have hj0 : (0 : Int) ≤ i := Int.natCast_nonneg _
        have hj1 : (i : Int) < 32 := by omega
        have hj2 : (i : Int) < 64 := by omega
        obtain ⟨y, hy⟩ : ∃ y, y = T.getD i 0 := ⟨_, rfl⟩
        rw [← hy] at hcl hset
        clear hy
        have HST := Aside0.mk hset
        have HII := Aside0.mk hi
        clear hi hi64 hset
        go_wp2
        go_roundw
        case measure => have := HII.out; simp [intOf]; omega
        case rel =>
          refine ⟨i + 1, L.set i y, by simp, ⟨by have := HII.out; omega⟩, HST, ⟨by rw [List.length_set]; exact HLL.out⟩, ⟨S3.out.put i _ (bytesA_set L i _)⟩, ⟨S2.out.grown (put_grown _ n3 i _) (by have := H23.out; omega)⟩, ⟨below_grown SB.out (put_grown _ n3 i _) (by have := H23.out; omega) (Nat.le_of_lt S2.out.lt)⟩, ⟨S4.out.grown (put_grown _ n3 i _) (by have := H36.out; omega)⟩⟩
      · have hj1 : ¬ (i : Int) < 32 := by omega
        have hiN : i = 32 := by have := HI.out; omega
        have HLK : Aside0 (L = blkL l0) := ⟨by rw [HLM.out, hiN, ← HTN.out, List.take_of_length_le (Nat.le_refl _), HTE.out]; rfl⟩
        have hb := HLK.out
        rw [hb] at S3
        clear hi hiN HLM HLK hb
        go_wp2_with (first
          | (refine wpList_load_blk rfl 41 (.tmp 3) rfl n3 rfl 41 (bytesA (blkL l0)) 64 5 S3.out Try.underlying41 (by rw [bytes_size, blkL_len]; kernel_rfl) ?_)
          | (refine wpList_store_blk rfl 41 (.tmp 2) (.tmp 25) rfl n2 (bytesA (blkL l0)) rfl rfl 41 _ S2.out (by rw [bytes_size, blkL_len]; kernel_rfl) (by rw [bytes_size, bytes_size, blkL_len]; rfl) (bytes_one _) ?_; intro w9 hv9 hg9; have gv := Aside0.mk hv9; have gb := Aside0.mk (below_grown SB.out hg9 (Nat.le_refl _) (Nat.le_of_lt S2.out.lt)); clear hv9 hg9))
        refine bodyPost_ret (v := .agg (bytesA (blkL l0))) (results_cell_row (fn := Try.f26) (p := 2) (by rfl) _ _ n2 41 _ (0, 0) _ (by rfl) gv.out Try.underlying41 rfl (by rw [bytes_size, blkL_len]; kernel_rfl)) rfl ⟨rfl, by rw [← HN2.out]; exact gb.out⟩
  · have hi : ¬ (l0.length : Int) > 64 := by omega
    have HTS : Aside0 (T = l0) := ⟨by rw [hT]; exact secR_short h64⟩
    have HTN : Aside0 (T.length = l0.length) := ⟨by rw [HTS.out]⟩
    clear h64 hT
    go_wp2
    have K3 := Aside0.mk SZ.out.h3
    have K2 := Aside0.mk SZ.out.h2
    have KB := Aside0.mk SZ.out.hb
    clear SZ
    go_loopw [5] (fun v5 wr => ∃ (i : Nat) (L : List Int), v5 = .int .i64 i ∧ Aside0 (i ≤ l0.length) ∧ Aside0 (L = T.take i ++ List.replicate (64 - i) 0) ∧ Aside0 (L.length = 64) ∧ Aside0 (Blk wr n3 (bytesA L) 41) ∧ Aside0 (Blk wr n2 (bytesA (List.replicate 64 0)) 41) ∧ Aside0 (Below n2 w wr)) (fun v5 _ => l0.length - (intOf v5).toNat)
    case atStart => exact ⟨0, List.replicate 64 0, rfl, ⟨Nat.zero_le _⟩, ⟨by simp⟩, ⟨rfl⟩, K3, K2, KB⟩
    case round =>
      clear K3 K2 KB
      obtain ⟨i, L, rfl, HI, HLM, HLL, S3, S2, SB⟩ := hrel
      by_cases hi : i < l0.length
      · have hR := Kd.reads_of_C (enc := Value.int .u8) (d := (0 : Int)) (h1 := fun _ => rfl) (C_low HR.out (by rw [← HN2.out]; exact SB.out))
        obtain ⟨ad, hA, hcl⟩ := hR.2.2 (by omega)
        subst hA
        replace hcl := hcl i hi
        rw [← HTS.out] at hcl
        clear hR
        have hi64 : i < 64 := by have := HT64.out; have := HTN.out; omega
        have hst := S3.out.cell i _ (bytesA_at L i (by rw [HLL.out]; exact hi64))
        have hset := zero_step T L i HLM.out (by rw [HTN.out]; exact hi) hi64
        have hfz := S3.out.frozen i
        have hj0 : (0 : Int) ≤ i := Int.natCast_nonneg _
        have hj1 : (i : Int) < l0.length := by omega
        have hj2 : (i : Int) < 64 := by omega
        obtain ⟨y, hy⟩ : ∃ y, y = T.getD i 0 := ⟨_, rfl⟩
        rw [← hy] at hcl hset
        clear hy
        have HST := Aside0.mk hset
        have HII := Aside0.mk hi
        clear hi hi64 hset
        go_wp2
        go_roundw
        case measure => have := HII.out; simp [intOf]; omega
        case rel =>
          refine ⟨i + 1, L.set i y, by simp, ⟨by have := HII.out; omega⟩, HST, ⟨by rw [List.length_set]; exact HLL.out⟩, ⟨S3.out.put i _ (bytesA_set L i _)⟩, ⟨S2.out.grown (put_grown _ n3 i _) (by have := H23.out; omega)⟩, ⟨below_grown SB.out (put_grown _ n3 i _) (by have := H23.out; omega) (Nat.le_of_lt S2.out.lt)⟩⟩
      · have hj1 : ¬ (i : Int) < l0.length := by omega
        have hiN : i = l0.length := by have := HI.out; omega
        have HLK : Aside0 (L = blkL l0) := ⟨by rw [HLM.out, hiN, ← HTN.out, List.take_of_length_le (Nat.le_refl _), HTE.out]; rfl⟩
        have hb := HLK.out
        rw [hb] at S3
        clear hi hiN HLM HLK hb
        go_wp2_with (first
          | (refine wpList_load_blk rfl 41 (.tmp 3) rfl n3 rfl 41 (bytesA (blkL l0)) 64 5 S3.out Try.underlying41 (by rw [bytes_size, blkL_len]; kernel_rfl) ?_)
          | (refine wpList_store_blk rfl 41 (.tmp 2) (.tmp 25) rfl n2 (bytesA (blkL l0)) rfl rfl 41 _ S2.out (by rw [bytes_size, blkL_len]; kernel_rfl) (by rw [bytes_size, bytes_size, blkL_len]; rfl) (bytes_one _) ?_; intro w9 hv9 hg9; have gv := Aside0.mk hv9; have gb := Aside0.mk (below_grown SB.out hg9 (Nat.le_refl _) (Nat.le_of_lt S2.out.lt)); clear hv9 hg9))
        refine bodyPost_ret (v := .agg (bytesA (blkL l0))) (results_cell_row (fn := Try.f26) (p := 2) (by rfl) _ _ n2 41 _ (0, 0) _ (by rfl) gv.out Try.underlying41 rfl (by rw [bytes_size, blkL_len]; kernel_rfl)) rfl ⟨rfl, by rw [← HN2.out]; exact gb.out⟩
end Go.Proofs.Ytbakfengmehkkaa.G
