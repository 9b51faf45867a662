/- The walk of the law ShaParts (written by gen_shaparts.py). -/
import Derived.Test.YtbakfengmehkkaaGSummed
import Derived.Test.YtbakfengmehkkaaGRefSum
import Derived.Deep.RegionHeld3
set_option linter.unusedVariables false
namespace Go.Proofs.Ytbakfengmehkkaa.G
open Go Go.RowKit Go.Proofs.Ytbakfengmehkkaa.PL Go.Proofs.Ytbakfengmehkkaa.Q Go.Proofs.YtbakfengmehkkaaW.PrintWords Go.Proofs.YtbakfengmehkkaaW.PrintLast Go.Proofs.YtbakfengmehkkaaW.PrintMore
theorem xwords_any (A : Option Addr) (n c : Nat) (xs : List Int) (w : World) (hn : n = 64) (hr : Kd.C (Kd.int .u8) w A 64 xs) (hc : 64 ≤ c) (hb : IsBytes xs) :
    Calls Try.prog 20 #[.slice A n c] w fun e w' => ∃ g cap, e = .returned (.tuple #[.slice (some ⟨g, 0, none⟩) 16 cap, .int .i64 0]) ∧ w'.ownsRow w.heap.size 27 1 (.slice (some ⟨g, 0, none⟩) 16 cap) 16 ((wordsOf xs).map (Value.int .u32)) ∧ Below w.heap.size w w' := by
  subst hn
  exact words_any A c xs w hr hc hb
theorem same_self (A0 A1 : Option Addr) (n m c0 c1 : Nat) (l : List Int) (w : World) (hn : l.length = n) (hm : n = m) (hl : l.length ≤ 9223372036854775806) (hr0 : Kd.C (Kd.int .u8) w A0 n l) (hc0 : n ≤ c0) (hr1 : Kd.C (Kd.int .u8) w A1 n l) (hc1 : n ≤ c1) :
    Calls Try.prog 12 #[.slice A0 n c0, .slice A1 m c1] w fun e w' => e = .returned (.bool true) ∧ Drawn0 w w' := by
  subst hm
  subst hn
  obtain ⟨K, h⟩ := same_ev l l hl
  have h2 := gatelineref01_Same.calls K A0 c0 l A1 c1 l _ w hr0 hc0 hr1 hc1 (h K (Nat.le_refl _))
  simpa using h2
theorem xbytes_any (b : Nat) (t : TypeId) (H : List Int) (w : World) (hB : Blk w b (wordsA H) t) (hl : H.length = 8) :
    Calls Try.prog 21 #[.slice (some ⟨b, 0, none⟩) 8 8] w fun e w' => ∃ A cap, e = .returned (.slice A 32 cap) ∧ Kd.C (Kd.int .u8) w' A 32 (bytesOfW H) ∧ 32 ≤ cap ∧ Below w.heap.size w w' := by
  have hw : (bytesOfW H).length = 32 := by rw [bytesOfW_length, hl]
  obtain ⟨K, h⟩ := bytes_ev H (by omega)
  have hcall := bits_Bytes.calls K (some ⟨b, 0, none⟩) 8 H (bytesOfW H) w (C_of_blk hB (by omega)) (by omega) (h K (Nat.le_refl _))
  rw [hl] at hcall
  refine hcall.mono ?_
  rintro e w' ⟨v, rfl, hR, hb⟩
  obtain ⟨A, c, rfl⟩ := Kd.R_slice hR
  obtain ⟨_, hle, hC⟩ := Kd.R_reads' hR
  rw [hw] at hle hC ⊢
  exact ⟨A, c, rfl, hC, hle, hb⟩
/-- The boxes behind the digest. -/
structure PS (n3 n10 : Nat) (H D : List Int) (w3 W : World) : Prop where
  h3 : Blk W n3 (wordsA H) 28
  h10 : Blk W n10 (bytesA D) 32
  hb : Below n3 w3 W
section
variable {n3 n10 : Nat} {H D : List Int} {w W W' : World}
theorem PS.drew (s : PS n3 n10 H D w W) : PS n3 n10 H D w W.drew := ⟨s.h3, s.h10, below_drew1 s.hb⟩
theorem PS.drewN (s : PS n3 n10 H D w W) (n : Nat) : PS n3 n10 H D w (W.drewN n) := ⟨s.h3, s.h10, pw_below_drewN s.hb n⟩
theorem PS.below (s : PS n3 n10 H D w W) (hb : Below W.heap.size W W') : PS n3 n10 H D w W' := ⟨s.h3.below hb s.h3.lt, s.h10.below hb s.h10.lt, s.hb.trans (hb.mono (Nat.le_of_lt s.h3.lt))⟩
end
set_option maxRecDepth 100000 in
set_option maxHeartbeats 8000000 in
theorem shaParts_any (A0 : Option Addr) (c0 : Nat) (l0 : List Int) (w : World) (hr : Kd.C (Kd.int .u8) w A0 l0.length l0) (hc : l0.length ≤ c0) (hl : l0.length ≤ 140737488351232) (hb : IsBytes l0) :
    Calls Try.prog 6 #[.slice A0 l0.length c0] w fun e w' => e = .returned (.bool true) ∧ Below w.heap.size w w' := by
  have HR := Aside0.mk hr
  have HC := Aside0.mk hc
  have HL := Aside0.mk hl
  have HBY := Aside0.mk hb
  clear hr hc hl hb
  go_enter Try.func6, Try.ntmps6
  go_upto_region 2 with (first
    | (go_at_call 13; refine (pad_any A0 c0 l0 _ HR.out HC.out HL.out).mono ?_; rintro e w1 ⟨A, c, rfl, _, hC2, hc2, hb2⟩; have PB := Aside0.mk hb2; have PC := Aside0.mk hC2; have PL_ := Aside0.mk hc2; clear hC2 hc2 hb2))
  by_cases h5 : (l0.length : Int) > 5000
  · go_wp2
    go_ret
    exact ⟨rfl, PB.out⟩
  have HPLN : Aside0 ((padR l0).length = l0.length + 1 + zerosN l0.length + 8) := ⟨padR_length l0⟩
  have hz := zeros_lt l0.length
  have hpm : ((padR l0).length : Int).tmod 64 = 0 := by
    have := padR_mod l0
    rw [Int.tmod_eq_emod_of_nonneg (by omega)]
    omega
  have hp1 : ¬ ((padR l0).length : Int) < l0.length + 9 := by have := HPLN.out; omega
  have hp2 : ¬ ((padR l0).length : Int) > l0.length + 72 := by have := HPLN.out; unfold zerosN at this; omega
  have hp3 : (l0.length : Int) ≤ 5000 := by omega
  have HPT : Aside0 ((padR l0).take l0.length = l0) := ⟨by rw [padR, List.append_assoc, List.append_assoc, List.take_left]⟩
  have HPM : Aside0 ((padR l0).length = 64 * ((padR l0).length / 64)) := ⟨by have := padR_mod l0; omega⟩
  have HPL : Aside0 ((padR l0).length ≤ 200000) := ⟨by have := HPLN.out; omega⟩
  have HPB : Aside0 (IsBytes (padR l0)) := ⟨padR_isBytes l0 HBY.out⟩
  have HLE : Aside0 (l0.length ≤ (padR l0).length) := ⟨by have := HPLN.out; omega⟩
  obtain ⟨FIN, hF⟩ : ∃ FIN, FIN = sumL ((padR l0).length / 64) beginL (padR l0) := ⟨_, rfl⟩
  have HFL : Aside0 (FIN.length = 8) := ⟨by rw [hF]; exact sumL_len _ _ _ rfl⟩
  have HSR : Aside0 (sumR l0 = bytesOfW FIN) := ⟨by rw [hF, sumR]⟩
  have HF := Aside0.mk hF
  clear hF hz h5
  generalize padR l0 = P0 at *
  have hp4 : (P0.length : Int) ≤ 200000 := by have := HPL.out; omega
  obtain ⟨i8, hi8, hz8⟩ : ∃ i, Try.prog.info? 5 = some i ∧ i.size = 1 := by obtain ⟨i, h1, _, h2, _⟩ := info_parts info5; exact ⟨i, h1, h2⟩
  have hct := cut_to (P := Try.prog) 22 5 .i64 Try.underlying22 hi8 A P0.length c l0.length (Int.natCast_nonneg _) (by have := HLE.out; omega) PL_.out
  clear hi8 hz8
  go_upto_region 6 with (first
    | (go_at_call 12; refine (same_self A A0 _ _ c c0 l0 w1 (by simp) (by simp) (by omega) (by have h := Kd.C_take (m := l0.length) PC.out HLE.out; rw [HPT.out] at h; simpa using h) (by have := PL_.out; have := HLE.out; simp; omega) (by have h := Kd.C_below HR.out PB.out; simpa using h) (by have := HC.out; simpa using this)).mono ?_; rintro e w2 ⟨rfl, nd, rfl⟩))
  clear hct hpm hp1 hp2
  have PB2 := Aside0.mk (pw_below_drewN PB.out nd)
  have PC2 := Aside0.mk (Kd.C_drewN PC.out nd)
  clear PB PC
  generalize w1.drewN nd = w2 at *
  go_wp2_with (first
    | (go_at_call 19; refine (begin_any _).mono ?_; rintro e w3 ⟨rfl, hb3⟩; have QB := Aside0.mk (below_step PB2.out hb3); have QC := Aside0.mk (Kd.C_below PC2.out hb3); clear hb3 PB2 PC2)
    | (refine wpList_store_blk rfl 28 (.tmp 4) (.tmp 45) rfl w3.heap.size (wordsA beginL) rfl rfl 28 _ (Blk.new w3 _ _) (by kernel_rfl) rfl (by kernel_rfl) ?_; intro w4 hv hg; have R3 := Aside0.mk hv; have RB := Aside0.mk (below_grown ((Below.refl w3.heap.size w3).alloc (Nat.le_refl _) _) hg (Nat.le_refl _) (by simp only [World.size_alloc]; omega)); clear hv hg))
  obtain ⟨n3, hn3⟩ : ∃ n, n = w3.heap.size := ⟨_, rfl⟩
  have HN3 := Aside0.mk hn3
  rw [← hn3] at R3 RB ⊢
  clear hn3
  obtain ⟨M, hM⟩ : ∃ M, M = P0.length / 64 := ⟨_, rfl⟩
  rw [← hM] at HPM HF
  have HS0 : Aside0 (sumL M beginL P0 = FIN) := ⟨HF.out.symm⟩
  clear HF hM
  go_loopw [5] (fun v5 wr => ∃ (j : Nat) (H : List Int), v5 = .int .i64 (64 * j) ∧ Aside0 (j ≤ M ∧ sumL (M - j) H (P0.drop (64 * j)) = FIN) ∧ Aside0 (H.length = 8) ∧ Aside0 (IsWords H) ∧ Aside0 (Blk wr n3 (wordsA H) 28) ∧ Aside0 (Below n3 w3 wr)) (fun v5 _ => P0.length - (intOf v5).toNat)
  case atStart => exact ⟨0, beginL, rfl, ⟨Nat.zero_le _, by simpa using HS0.out⟩, ⟨rfl⟩, ⟨begin_words⟩, R3, RB⟩
  case round =>
    clear HS0 R3 RB
    obtain ⟨j, H, rfl, HS, HHL, HHW, R3, RB⟩ := hrel
    by_cases hx : j < M
    · have h64 : 64 * j + 64 ≤ P0.length := by have := HPM.out; omega
      have hp : (P0.length : Int) ≤ 200000 := by have := HPL.out; omega
      have hi1 : (64 : Int) * j < P0.length := by omega
      have hi0 : (0 : Int) ≤ 64 * j := by omega
      obtain ⟨i8, hi8, hz8⟩ : ∃ i, Try.prog.info? 5 = some i ∧ i.size = 1 := by obtain ⟨i, h1, _, h2, _⟩ := info_parts info5; exact ⟨i, h1, h2⟩
      have hcut := cut_mid (P := Try.prog) 22 5 .i64 .i64 Try.underlying22 hi8 1 hz8 A P0.length c (64 * (j : Int)) (64 * (j : Int) + 64) (by omega) (by omega) (by omega) PL_.out
      obtain ⟨A2, hA2⟩ : ∃ A2, A2 = if c = (64 * (j : Int)).toNat then A else A.map (·.add ((64 * (j : Int)).toNat * 1)) := ⟨_, rfl⟩
      rw [← hA2, show (64 * (j : Int) + 64).toNat - (64 * (j : Int)).toNat = 64 by omega, show (64 * (j : Int)).toNat = 64 * j by omega] at hcut
      rw [show (64 * (j : Int)).toNat = 64 * j by omega] at hA2
      obtain ⟨xs, hxs⟩ : ∃ xs, xs = (P0.drop (64 * j)).take 64 := ⟨_, rfl⟩
      have HXS := Aside0.mk hxs
      have hxl : xs.length = 64 := by rw [hxs, List.length_take, List.length_drop]; omega
      have HT : Aside0 (Kd.C (Kd.int .u8) w3 A2 64 xs) := ⟨by
        have hm := Kd.C_mid (k := Kd.int .u8) (lo := 64 * j) (hi := 64 * j + 64) (c := c) QC.out (by omega) h64 PL_.out
        have he : (P0.take (64 * j + 64)).drop (64 * j) = xs := by rw [hxs, List.drop_take]; congr 1; omega
        rw [he, hxl] at hm
        rw [hA2]
        exact hm⟩
      have HTB : Aside0 (IsBytes xs) := ⟨fun x h => HPB.out x (by rw [hxs] at h; exact List.mem_of_mem_drop (List.mem_of_mem_take h))⟩
      obtain ⟨Y, hY⟩ : ∃ Y, Y = wordsOf xs := ⟨_, rfl⟩
      have HY := Aside0.mk hY
      have HYL : Aside0 (Y.length = 16) := ⟨by rw [hY, wordsOf_length, hxl]⟩
      have HYW : Aside0 (IsWords Y) := ⟨by rw [hY]; exact wordsOf_isWords xs HTB.out⟩
      have HNX : Aside0 (sumL (M - (j + 1)) (blockR H Y) (P0.drop (64 * (j + 1))) = FIN) := ⟨by
        have h := HS.out.2
        rw [show M - j = (M - (j + 1)) + 1 by omega, sumL, ← hxs, ← hY, List.drop_drop] at h
        rw [← h, show 64 * (j + 1) = 64 * j + 64 by omega]⟩
      have HJ := Aside0.mk hx
      have H64 := Aside0.mk h64
      have HCI : Aside0 (64 ≤ c - 64 * j) := ⟨by have := PL_.out; omega⟩
      clear hxs hxl hY hA2 hi8 hz8 hx h64
      go_upto_region 11 with (first
        | (go_at_call 20; refine (xwords_any A2 _ _ xs _ (by omega) (Kd.C_below HT.out (by rw [← HN3.out]; exact RB.out)) HCI.out HTB.out).mono ?_; rintro e w5 ⟨g, cap, rfl, hown, hb5⟩; rw [← HY.out] at hown; have Q3 := Aside0.mk (R3.out.below hb5 R3.out.lt); have QB5 := Aside0.mk (RB.out.trans (hb5.mono (Nat.le_of_lt R3.out.lt))); have QO := Aside0.mk hown; clear hown hb5 R3 RB))
      clear hcut
      go_wp2_with (first
        | (refine wpList_build_as rfl 29 _ rfl (wordsA (List.replicate 16 0)) (by as_aux_lemma => kernel_rfl) ?_)
        | (refine wpList_store_blk rfl 29 (.tmp 8) (.tmp 64) rfl w5.heap.size (wordsA (List.replicate 16 0)) rfl rfl 29 _ (Blk.new w5 _ _) (by kernel_rfl) rfl (by kernel_rfl) ?_; intro w6 hv hg; have S8 := Aside0.mk hv; have S3 := Aside0.mk ((Q3.out.alloc _).grown hg (by have := Q3.out.lt; omega)); have SB := Aside0.mk (below_grown (QB5.out.alloc (Nat.le_of_lt Q3.out.lt) _) hg (Nat.le_of_lt Q3.out.lt) (by have := Q3.out.lt; simp only [World.size_alloc]; omega)); have SO := Aside0.mk (own_grown (QO.out.alloc _) hg (by have := (QO.out.lt g rfl).2; omega)); have SG := Aside0.mk (show n3 < w5.heap.size ∧ g < w5.heap.size from ⟨Q3.out.lt, (QO.out.lt g rfl).2⟩); clear hv hg Q3 QB5 QO))
      obtain ⟨n8, hn8⟩ : ∃ n, n = w5.heap.size := ⟨_, rfl⟩
      rw [← hn8] at S8 SG ⊢
      have SO2 := Aside0.mk (own_base SO.out (Nat.zero_le _))
      clear hn8 SO
      go_loopw [9] (fun v9 ws => ∃ (i : Nat) (m : List Int), v9 = .int .i64 i ∧ Aside0 (i ≤ 16) ∧ Aside0 (m.length = 16) ∧ Aside0 (m.take i = Y.take i) ∧ Aside0 (Blk ws n8 (wordsA m) 29) ∧ Aside0 (Blk ws n3 (wordsA H) 28) ∧ Aside0 (Below n3 w3 ws) ∧ Aside0 (ws.ownsRow 0 27 1 (.slice (some ⟨g, 0, none⟩) 16 cap) 16 (Y.map (Value.int .u32)))) (fun v9 _ => 16 - (intOf v9).toNat)
      case atStart => exact ⟨0, List.replicate 16 0, rfl, ⟨by omega⟩, ⟨rfl⟩, ⟨rfl⟩, S8, S3, SB, SO2⟩
      case round =>
        clear S8 S3 SB SO2
        obtain ⟨i, m, rfl, HI, HML, HMT, S8, S3, SB, SO⟩ := hrel
        by_cases hi : i < 16
        · have hcl : wr.cell? ⟨g, i, none⟩ = some (.int .u32 (Y.getD i 0)) := by
            rw [SO.out.cellAt i (by omega)]
            simp [HYL.out, hi]
          obtain ⟨y, hy⟩ : ∃ y, y = Y.getD i 0 := ⟨_, rfl⟩
          rw [← hy] at hcl
          have hst := S8.out.cell i _ (wordsA_at m i (by rw [HML.out]; exact hi))
          have hfz := S8.out.frozen i
          have hj0 : (0 : Int) ≤ i := Int.natCast_nonneg _
          have hj1 : (i : Int) < 16 := by omega
          have HII := Aside0.mk hi
          have HYY := Aside0.mk hy
          clear hi hy
          go_wp2
          go_roundw
          case measure => have := HII.out; simp [intOf]; omega
          case rel =>
            refine ⟨i + 1, m.set i y, by simp, ⟨by have := HII.out; omega⟩, ⟨by rw [List.length_set]; exact HML.out⟩, ⟨by rw [HYY.out]; exact take_set_succ m Y i HMT.out (by rw [HML.out]; exact HII.out) (by rw [HYL.out]; exact HII.out)⟩, ⟨S8.out.put i _ (wordsA_set m i y)⟩, ⟨S3.out.grown (put_grown _ n8 i _) (by have := SG.out; omega)⟩, ⟨below_grown SB.out (put_grown _ n8 i _) (by have := SG.out; omega) (Nat.le_of_lt S3.out.lt)⟩, ⟨own_grown SO.out (put_grown _ n8 i _) (by have := SG.out; omega)⟩⟩
        · have hmY : m = Y := by
            have h := HMT.out
            have hi16 : i = 16 := by have := HI.out; omega
            rw [hi16, List.take_of_length_le (by rw [HML.out]; omega), List.take_of_length_le (by rw [HYL.out]; omega)] at h
            exact h
          subst hmY
          have hj1 : ¬ (i : Int) < 16 := by omega
          clear hi
          go_wp2_with (first
            | (refine wpList_load_blk rfl 28 (.tmp 4) rfl n3 rfl 28 (wordsA H) 8 27 S3.out Try.underlying28 (by rw [words_size, HHL.out]; kernel_rfl) ?_)
            | (refine wpList_load_blk rfl 29 (.tmp 8) rfl n8 rfl 29 (wordsA m) 16 27 S8.out Try.underlying29 (by rw [words_size, HML.out]; kernel_rfl) ?_)
            | (go_at_call 15; refine (block_any H m _ HHL.out HML.out).mono ?_; rintro e w7 ⟨rfl, hb7⟩; have T3 := Aside0.mk (S3.out.below hb7 S3.out.lt); have TB := Aside0.mk (SB.out.trans (hb7.mono (Nat.le_of_lt S3.out.lt))); clear hb7 S3 SB S8 SO)
            | (refine wpList_store_blk rfl 28 (.tmp 4) (.tmp 77) rfl n3 (wordsA (blockR H m)) rfl rfl 28 _ T3.out (by rw [words_size, block_len _ _ HHL.out]; kernel_rfl) (by rw [words_size, words_size, block_len _ _ HHL.out, HHL.out]) (words_one _) ?_; intro w8 hv hg; have V3 := Aside0.mk hv; have VB := Aside0.mk (below_grown TB.out hg (Nat.le_refl _) (Nat.le_of_lt T3.out.lt)); clear hv hg T3 TB))
          go_roundw
          case measure => have := HJ.out; have := HPM.out; simp [intOf]; omega
          case rel => exact ⟨j + 1, blockR H m, by first | rfl | (congr 1; done) | (congr 1; omega) | (congr 1; push_cast; omega), ⟨by have := HJ.out; omega, HNX.out⟩, ⟨block_len _ _ HHL.out⟩, ⟨block_words _ _ HHW.out⟩, V3, VB⟩
    · have hjM : j = M := by have := HS.out.1; omega
      have hH : H = FIN := by
        have h := HS.out.2
        rw [hjM, Nat.sub_self, sumL] at h
        exact h
      subst hH
      have hi1 : ¬ (64 : Int) * j < P0.length := by have := HPM.out; omega
      clear hx HS
      go_upto_region 20 with (first
        | (go_at_call 17; refine (sum_any A0 c0 l0 _ (Kd.C_below (Kd.C_below HR.out QB.out) (by rw [← HN3.out]; exact RB.out)) HC.out (by omega) HBY.out).mono ?_; rintro e w5 ⟨rfl, hb5⟩; have S3 := Aside0.mk (R3.out.below hb5 R3.out.lt); have SB := Aside0.mk (RB.out.trans (hb5.mono (Nat.le_of_lt R3.out.lt))); clear hb5 R3 RB)
        | (refine wpList_store_blk rfl 32 (.tmp 10) (.tmp 79) rfl w5.heap.size (bytesA (sumR l0)) rfl rfl 32 _ (Blk.new w5 _ _) (by rw [bytes_size, sumR_len]; kernel_rfl) (by rw [bytes_size, sumR_len]; try rfl) (bytes_one _) ?_; intro w6 hv hg; have T10 := Aside0.mk hv; have T3 := Aside0.mk ((S3.out.alloc _).grown hg (by have := S3.out.lt; omega)); have TB := Aside0.mk (below_grown (SB.out.alloc (Nat.le_of_lt S3.out.lt) _) hg (Nat.le_of_lt S3.out.lt) (by have := S3.out.lt; simp only [World.size_alloc]; omega)); clear hv hg S3 SB))
      obtain ⟨n10, hn10⟩ : ∃ n, n = w5.heap.size := ⟨_, rfl⟩
      rw [← hn10] at T10 ⊢
      clear hn10
      have HP := Aside0.mk (show PS n3 n10 H (sumR l0) w3 w6 from ⟨T3.out, T10.out, TB.out⟩)
      clear T3 T10 TB
      have MK : Aside0 (∀ W', PS n3 n10 H (sumR l0) w3 W' → Aside0 (PS n3 n10 H (sumR l0) w3 W')) := ⟨fun _ s => ⟨s⟩⟩
      go_region_held3 (fun W' => Aside0 (PS n3 n10 H (sumR l0) w3 W'))
        (first
          | assumption
          | exact MK.out _ (PS.drew (Aside0.out (by assumption)))
          | exact MK.out _ (PS.drewN (Aside0.out (by assumption)) _))
        (first
          | (go_at_call 11; refine (summed_calls _).mono ?_; rintro e w7 ⟨rfl, hb7⟩; have T7 := Aside0.mk (PS.below (show PS n3 n10 H (sumR l0) w3 _ from Aside0.out (by assumption)) hb7); clear hb7)
          | (go_at_call 21; refine (xbytes_any n3 28 H _ (PS.h3 (show PS n3 n10 H (sumR l0) w3 _ from Aside0.out (by assumption))) HHL.out).mono ?_; rintro e w8 ⟨ABY, cap8, rfl, hC8, hc8, hb8⟩; have T8 := Aside0.mk (PS.below (show PS n3 n10 H (sumR l0) w3 _ from Aside0.out (by assumption)) hb8); have C8 := Aside0.mk hC8; have L8 := Aside0.mk hc8; clear hb8 hC8 hc8)
          | (go_at_call 12; refine (same_self ABY _ 32 _ cap8 32 (bytesOfW H) w8 (by rw [bytesOfW_length, HHL.out]) rfl (by rw [bytesOfW_length, HHL.out]; decide) C8.out L8.out (by rw [← HSR.out]; have h := C_of_blk8 T8.out.h10 (by rw [sumR_len]; decide); rw [sumR_len] at h; exact h) (Nat.le_refl _)).mono ?_; rintro e w9 ⟨rfl, nd9, rfl⟩; have T9 := Aside0.mk (PS.drewN T8.out nd9)))
      go_wp2
      go_ret
      refine ⟨rfl, ?_⟩
      exact below_step QB.out (by rw [← HN3.out]; exact PS.hb (Aside0.out (by assumption)))
end Go.Proofs.Ytbakfengmehkkaa.G
