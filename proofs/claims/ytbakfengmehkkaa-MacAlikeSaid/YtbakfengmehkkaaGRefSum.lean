/- The walks of gatelineref02.Begin and gatelineref02.Sum (written by gen_rsum.py). -/
import Derived.Test.YtbakfengmehkkaaGSum
set_option linter.unusedVariables false
namespace Go.Proofs.Ytbakfengmehkkaa.G
open Go Go.RowKit Go.Proofs.Ytbakfengmehkkaa.PL Go.Proofs.Ytbakfengmehkkaa.Q Go.Proofs.YtbakfengmehkkaaW.PrintWords Go.Proofs.YtbakfengmehkkaaW.PrintLast Go.Proofs.YtbakfengmehkkaaW.PrintMore
set_option maxRecDepth 100000 in
set_option maxHeartbeats 1000000 in
theorem begin_any (w : World) : Calls Try.prog 19 #[] w fun e w' => e = .returned (.agg (wordsA beginL)) ∧ Below w.heap.size w w' := by
  go_enter Try.func19, Try.ntmps19
  go_wp2_with (first
    | (refine wpList_build_as rfl 28 _ rfl (wordsA beginL) (by as_aux_lemma => kernel_rfl) ?_)
    | (refine wpList_store_blk rfl 28 (.tmp 0) (.tmp 1) rfl w.heap.size (wordsA beginL) rfl rfl 28 _ (Blk.new w _ _) (by kernel_rfl) rfl (by kernel_rfl) ?_; intro w9 hv hg; have gb := Aside0.mk (below_grown ((Below.refl w.heap.size w).alloc (Nat.le_refl _) _) hg (Nat.le_refl _) (by simp only [World.size_alloc]; omega)); have gv := Aside0.mk hv; clear hv hg))
  exact bodyPost_ret (v := .agg (wordsA beginL)) (results_cell_row (fn := Try.f19) (p := 0) (by rfl) _ _ w.heap.size 28 _ (0, 0) _ (by rfl) gv.out Try.underlying28 rfl (by kernel_rfl)) rfl ⟨rfl, gb.out⟩
theorem rpad_any (A0 : Option Addr) (c0 : Nat) (l0 : List Int) (w : World) (hr : Kd.C (Kd.int .u8) w A0 l0.length l0) (hc : l0.length ≤ c0) (hl : l0.length ≤ 100000) :
    Calls Try.prog 14 #[.slice A0 l0.length c0] w fun e w' => ∃ A c, e = .returned (.slice A (padR l0).length c) ∧ Kd.C (Kd.int .u8) w' A (padR l0).length (padR l0) ∧ (padR l0).length ≤ c ∧ Below w.heap.size w w' := by
  obtain ⟨K, h⟩ := refPad_ev l0 hl
  refine (gatelineref02_Pad.calls K A0 c0 l0 (padR l0) w hr hc (h K (Nat.le_refl _))).mono ?_
  rintro e w' ⟨v, rfl, hR, hb⟩
  obtain ⟨A, c, rfl⟩ := Kd.R_slice hR
  obtain ⟨_, hle, hC⟩ := Kd.R_reads' hR
  exact ⟨A, c, rfl, hC, hle, hb⟩
theorem rwords_any (A : Option Addr) (n c : Nat) (xs : List Int) (w : World) (hn : n = 64) (hr : Kd.C (Kd.int .u8) w A 64 xs) (hc : 64 ≤ c) (hb : IsBytes xs) :
    Calls Try.prog 35 #[.slice A n c] w fun e w' => ∃ g cap, e = .returned (.tuple #[.slice (some ⟨g, 0, none⟩) 16 cap, .int .i64 0]) ∧ w'.ownsRow w.heap.size 27 1 (.slice (some ⟨g, 0, none⟩) 16 cap) 16 ((wordsOf xs).map (Value.int .u32)) ∧ Below w.heap.size w w' := by
  subst hn
  have hl : xs.length = 64 := hr.1
  have hw : (wordsOf xs).length = 16 := by rw [wordsOf_length, hl]
  obtain ⟨K, h⟩ := refWords_ev xs hb (by omega)
  rw [wordsR, if_pos (by omega)] at h
  have hcall := gatelineref01_Words.calls K A c xs (wordsOf xs) 0 w (by rw [hl]; exact hr) (by omega) (h K (Nat.le_refl _))
  rw [hl] at hcall
  refine hcall.mono ?_
  rintro e w' ⟨v, rfl, hR, hb⟩
  obtain ⟨g, cap, hv, _⟩ := Kd.R_form hR (by omega)
  have ho := Kd.own_of_R hR
  subst hv
  rw [hw] at ho ⊢
  exact ⟨g, cap, rfl, ho, hb⟩
theorem rbytes_any (b : Nat) (t : TypeId) (H : List Int) (w : World) (hB : Blk w b (wordsA H) t) (hl : H.length = 8) (hw8 : IsWords H) :
    Calls Try.prog 36 #[.slice (some ⟨b, 0, none⟩) 8 8] w fun e w' => ∃ g cap, e = .returned (.slice (some ⟨g, 0, none⟩) 32 cap) ∧ w'.ownsRow w.heap.size 5 1 (.slice (some ⟨g, 0, none⟩) 32 cap) 32 ((bytesOfW H).map (Value.int .u8)) ∧ Below w.heap.size w w' := by
  have hw : (bytesOfW H).length = 32 := by rw [bytesOfW_length, hl]
  obtain ⟨K, h⟩ := refBytes_ev H hw8 (by omega)
  have hcall := gatelineref01_Bytes.calls K (some ⟨b, 0, none⟩) 8 H (bytesOfW H) w (C_of_blk hB (by omega)) (by omega) (h K (Nat.le_refl _))
  rw [hl] at hcall
  refine hcall.mono ?_
  rintro e w' ⟨v, rfl, hR, hb⟩
  obtain ⟨g, cap, hv, _⟩ := Kd.R_form hR (by omega)
  have ho := Kd.own_of_R hR
  subst hv
  rw [hw] at ho ⊢
  exact ⟨g, cap, rfl, ho, hb⟩
theorem begin_words : IsWords beginL := fun x hx => by simp only [beginL, List.mem_cons, List.not_mem_nil, or_false] at hx; omega
theorem own_grown {W W' : World} {base n g cap b : Nat} {e : TypeId} {xs : List Value} (h : W.ownsRow base e 1 (.slice (some ⟨g, 0, none⟩) n cap) n xs) (hg : W.grownBy W' (some b)) (hb : g ≠ b) : W'.ownsRow base e 1 (.slice (some ⟨g, 0, none⟩) n cap) n xs :=
  h.kept hg (Or.inr (by simp only [Value.ownBlock, ne_eq, Option.some.injEq]; exact hb))
theorem put_grown (W : World) (g i : Nat) (u : Value) : W.grownBy (W.setCell ⟨g, i, none⟩ u) (some g) := ⟨rfl, rfl, rfl, by simp, fun k _ hk => Below.heap_setCell W ⟨g, i, none⟩ u k (fun e => hk (by rw [e]))⟩
theorem take_set_succ (m Y : List Int) (t : Nat) (h : m.take t = Y.take t) (ht : t < m.length) (hY : t < Y.length) : (m.set t (Y.getD t 0)).take (t + 1) = Y.take (t + 1) := by
  rw [List.take_add_one, List.take_add_one, List.take_set_of_le (Nat.le_refl _), h]
  simp [ht, hY, List.getD_eq_getElem?_getD]
set_option maxRecDepth 100000 in
set_option maxHeartbeats 8000000 in
theorem rsum_any (A0 : Option Addr) (c0 : Nat) (l0 : List Int) (w : World) (hr : Kd.C (Kd.int .u8) w A0 l0.length l0) (hc : l0.length ≤ c0) (hl : l0.length ≤ 100000) (hb : IsBytes l0) :
    Calls Try.prog 18 #[.slice A0 l0.length c0] w fun e w' => e = .returned (.agg (bytesA (sumR l0))) ∧ Below w.heap.size w w' := by
  obtain ⟨FIN, hF⟩ : ∃ FIN, FIN = sumL ((padR l0).length / 64) beginL (padR l0) := ⟨_, rfl⟩
  have HFL : Aside0 (FIN.length = 8) := ⟨by rw [hF]; exact sumL_len _ _ _ rfl⟩
  rw [show sumR l0 = bytesOfW FIN by rw [hF, sumR]]
  have HF := Aside0.mk hF
  have HR := Aside0.mk hr
  have HC := Aside0.mk hc
  have HL := Aside0.mk hl
  have HBY := Aside0.mk hb
  clear hF hr hc hl hb
  go_enter Try.func18, Try.ntmps18
  go_upto_region 1 with (first | (fail))
  have g2 : Blk (w.alloc (.cells #[.int .u8 0, .int .u8 0, .int .u8 0, .int .u8 0, .int .u8 0, .int .u8 0, .int .u8 0, .int .u8 0, .int .u8 0, .int .u8 0, .int .u8 0, .int .u8 0, .int .u8 0, .int .u8 0, .int .u8 0, .int .u8 0, .int .u8 0, .int .u8 0, .int .u8 0, .int .u8 0, .int .u8 0, .int .u8 0, .int .u8 0, .int .u8 0, .int .u8 0, .int .u8 0, .int .u8 0, .int .u8 0, .int .u8 0, .int .u8 0, .int .u8 0, .int .u8 0] 32)) w.heap.size (bytesA (List.replicate 32 0)) 32 := Blk.new w #[.int .u8 0, .int .u8 0, .int .u8 0, .int .u8 0, .int .u8 0, .int .u8 0, .int .u8 0, .int .u8 0, .int .u8 0, .int .u8 0, .int .u8 0, .int .u8 0, .int .u8 0, .int .u8 0, .int .u8 0, .int .u8 0, .int .u8 0, .int .u8 0, .int .u8 0, .int .u8 0, .int .u8 0, .int .u8 0, .int .u8 0, .int .u8 0, .int .u8 0, .int .u8 0, .int .u8 0, .int .u8 0, .int .u8 0, .int .u8 0, .int .u8 0, .int .u8 0] 32
  have gb := below_alloc (Below.refl w.heap.size w) (.cells #[.int .u8 0, .int .u8 0, .int .u8 0, .int .u8 0, .int .u8 0, .int .u8 0, .int .u8 0, .int .u8 0, .int .u8 0, .int .u8 0, .int .u8 0, .int .u8 0, .int .u8 0, .int .u8 0, .int .u8 0, .int .u8 0, .int .u8 0, .int .u8 0, .int .u8 0, .int .u8 0, .int .u8 0, .int .u8 0, .int .u8 0, .int .u8 0, .int .u8 0, .int .u8 0, .int .u8 0, .int .u8 0, .int .u8 0, .int .u8 0, .int .u8 0, .int .u8 0] 32)
  obtain ⟨n2, hn2⟩ : ∃ n, n = w.heap.size := ⟨_, rfl⟩
  have HN0 := Aside0.mk hn2
  generalize w.alloc (.cells #[.int .u8 0, .int .u8 0, .int .u8 0, .int .u8 0, .int .u8 0, .int .u8 0, .int .u8 0, .int .u8 0, .int .u8 0, .int .u8 0, .int .u8 0, .int .u8 0, .int .u8 0, .int .u8 0, .int .u8 0, .int .u8 0, .int .u8 0, .int .u8 0, .int .u8 0, .int .u8 0, .int .u8 0, .int .u8 0, .int .u8 0, .int .u8 0, .int .u8 0, .int .u8 0, .int .u8 0, .int .u8 0, .int .u8 0, .int .u8 0, .int .u8 0, .int .u8 0] 32) = U0 at *
  rw [← hn2] at g2 gb ⊢
  clear hn2
  have G2 := Aside0.mk g2
  have GB := Aside0.mk gb
  clear g2 gb
  go_upto_region 2 with (first
    | (go_at_call 14; refine (rpad_any A0 c0 l0 _ (Kd.C_below HR.out (by rw [← HN0.out]; exact GB.out)) HC.out HL.out).mono ?_; rintro e w2 ⟨A, c, rfl, hC2, hc2, hb2⟩; have P2 := Aside0.mk (G2.out.below hb2 G2.out.lt); have PB := Aside0.mk (GB.out.trans (hb2.mono (Nat.le_of_lt G2.out.lt))); have PC := Aside0.mk hC2; have PL_ := Aside0.mk hc2; clear hC2 hc2 hb2 G2 GB))
  go_wp2_with (first
    | (go_at_call 19; refine (begin_any _).mono ?_; rintro e w3 ⟨rfl, hb3⟩; have Q2 := Aside0.mk (P2.out.below hb3 P2.out.lt); have QB := Aside0.mk (PB.out.trans (hb3.mono (Nat.le_of_lt P2.out.lt))); have QC := Aside0.mk (Kd.C_below PC.out hb3); clear hb3 P2 PB PC)
    | (refine wpList_store_blk rfl 28 (.tmp 4) (.tmp 15) rfl w3.heap.size (wordsA beginL) rfl rfl 28 _ (Blk.new w3 _ _) (by kernel_rfl) rfl (by kernel_rfl) ?_; intro w4 hv hg; have R3 := Aside0.mk hv; have RB := Aside0.mk (below_grown ((Below.refl w3.heap.size w3).alloc (Nat.le_refl _) _) hg (Nat.le_refl _) (by simp only [World.size_alloc]; omega)); clear hv hg))
  obtain ⟨n3, hn3⟩ : ∃ n, n = w3.heap.size := ⟨_, rfl⟩
  have HN3 := Aside0.mk hn3
  rw [← hn3] at R3 RB ⊢
  have H23 : Aside0 (n2 < n3) := ⟨by rw [hn3]; exact Q2.out.lt⟩
  clear hn3
  have HPM : Aside0 ((padR l0).length = 64 * ((padR l0).length / 64)) := ⟨by have := padR_mod l0; omega⟩
  have HPL : Aside0 ((padR l0).length ≤ 200000) := ⟨by rw [padR_length]; have := zeros_lt l0.length; have := HL.out; omega⟩
  have HPB : Aside0 (IsBytes (padR l0)) := ⟨padR_isBytes l0 HBY.out⟩
  generalize padR l0 = P0 at *
  obtain ⟨M, hM⟩ : ∃ M, M = P0.length / 64 := ⟨_, rfl⟩
  rw [← hM] at HPM HF
  have HS0 : Aside0 (sumL M beginL P0 = FIN) := ⟨HF.out.symm⟩
  clear HF hM
  go_loopw [5] (fun v5 wr => ∃ (j : Nat) (H : List Int), v5 = .int .i64 (64 * j) ∧ Aside0 (j ≤ M ∧ sumL (M - j) H (P0.drop (64 * j)) = FIN) ∧ Aside0 (H.length = 8) ∧ Aside0 (IsWords H) ∧ Aside0 (Blk wr n3 (wordsA H) 28) ∧ Aside0 (Below n3 w3 wr)) (fun v5 _ => P0.length - (intOf v5).toNat)
  case atStart => exact ⟨0, beginL, rfl, ⟨Nat.zero_le _, by simpa using HS0.out⟩, ⟨rfl⟩, ⟨begin_words⟩, R3, RB⟩
  case round =>
    clear HS0 R3 RB
    obtain ⟨j, H, rfl, HS, HHL, HHW, R3, RB⟩ := hrel
    by_cases hx : j < M
    · have h64 : 64 * j + 64 ≤ P0.length := by have := HPM.out; omega
      have hp : (P0.length : Int) ≤ 200000 := by have := HPL.out; omega
      have hi1 : (64 : Int) * j < P0.length := by omega
      have hi0 : (0 : Int) ≤ 64 * j := by omega
      obtain ⟨i8, hi8, hz8⟩ : ∃ i, Try.prog.info? 5 = some i ∧ i.size = 1 := by obtain ⟨i, h1, _, h2, _⟩ := info_parts info5; exact ⟨i, h1, h2⟩
      have hcut := cut_mid (P := Try.prog) 22 5 .i64 .i64 Try.underlying22 hi8 1 hz8 A P0.length c (64 * (j : Int)) (64 * (j : Int) + 64) (by omega) (by omega) (by omega) PL_.out
      obtain ⟨A2, hA2⟩ : ∃ A2, A2 = if c = (64 * (j : Int)).toNat then A else A.map (·.add ((64 * (j : Int)).toNat * 1)) := ⟨_, rfl⟩
      rw [← hA2, show (64 * (j : Int) + 64).toNat - (64 * (j : Int)).toNat = 64 by omega, show (64 * (j : Int)).toNat = 64 * j by omega] at hcut
      rw [show (64 * (j : Int)).toNat = 64 * j by omega] at hA2
      obtain ⟨xs, hxs⟩ : ∃ xs, xs = (P0.drop (64 * j)).take 64 := ⟨_, rfl⟩
      have HXS := Aside0.mk hxs
      have hxl : xs.length = 64 := by rw [hxs, List.length_take, List.length_drop]; omega
      have HT : Aside0 (Kd.C (Kd.int .u8) w3 A2 64 xs) := ⟨by
        have hm := Kd.C_mid (k := Kd.int .u8) (lo := 64 * j) (hi := 64 * j + 64) (c := c) QC.out (by omega) h64 PL_.out
        have he : (P0.take (64 * j + 64)).drop (64 * j) = xs := by rw [hxs, List.drop_take]; congr 1; omega
        rw [he, hxl] at hm
        rw [hA2]
        exact hm⟩
      have HTB : Aside0 (IsBytes xs) := ⟨fun x h => HPB.out x (by rw [hxs] at h; exact List.mem_of_mem_drop (List.mem_of_mem_take h))⟩
      obtain ⟨Y, hY⟩ : ∃ Y, Y = wordsOf xs := ⟨_, rfl⟩
      have HY := Aside0.mk hY
      have HYL : Aside0 (Y.length = 16) := ⟨by rw [hY, wordsOf_length, hxl]⟩
      have HYW : Aside0 (IsWords Y) := ⟨by rw [hY]; exact wordsOf_isWords xs HTB.out⟩
      have HNX : Aside0 (sumL (M - (j + 1)) (blockR H Y) (P0.drop (64 * (j + 1))) = FIN) := ⟨by
        have h := HS.out.2
        rw [show M - j = (M - (j + 1)) + 1 by omega, sumL, ← hxs, ← hY, List.drop_drop] at h
        rw [← h, show 64 * (j + 1) = 64 * j + 64 by omega]⟩
      have HJ := Aside0.mk hx
      have H64 := Aside0.mk h64
      have HCI : Aside0 (64 ≤ c - 64 * j) := ⟨by have := PL_.out; omega⟩
      clear hxs hxl hY hA2 hi8 hz8 hx h64
      go_upto_region 7 with (first
        | (go_at_call 35; refine (rwords_any A2 _ _ xs _ (by omega) (Kd.C_below HT.out (by rw [← HN3.out]; exact RB.out)) HCI.out HTB.out).mono ?_; rintro e w5 ⟨g, cap, rfl, hown, hb5⟩; rw [← HY.out] at hown; have Q3 := Aside0.mk (R3.out.below hb5 R3.out.lt); have QB5 := Aside0.mk (RB.out.trans (hb5.mono (Nat.le_of_lt R3.out.lt))); have QO := Aside0.mk hown; clear hown hb5 R3 RB))
      clear hcut
      go_wp2_with (first
        | (refine wpList_build_as rfl 29 _ rfl (wordsA (List.replicate 16 0)) (by as_aux_lemma => kernel_rfl) ?_)
        | (refine wpList_store_blk rfl 29 (.tmp 8) (.tmp 31) rfl w5.heap.size (wordsA (List.replicate 16 0)) rfl rfl 29 _ (Blk.new w5 _ _) (by kernel_rfl) rfl (by kernel_rfl) ?_; intro w6 hv hg; have S8 := Aside0.mk hv; have S3 := Aside0.mk ((Q3.out.alloc _).grown hg (by have := Q3.out.lt; omega)); have SB := Aside0.mk (below_grown (QB5.out.alloc (Nat.le_of_lt Q3.out.lt) _) hg (Nat.le_of_lt Q3.out.lt) (by have := Q3.out.lt; simp only [World.size_alloc]; omega)); have SO := Aside0.mk (own_grown (QO.out.alloc _) hg (by have := (QO.out.lt g rfl).2; omega)); have SG := Aside0.mk (show n3 < w5.heap.size ∧ g < w5.heap.size from ⟨Q3.out.lt, (QO.out.lt g rfl).2⟩); clear hv hg Q3 QB5 QO))
      obtain ⟨n8, hn8⟩ : ∃ n, n = w5.heap.size := ⟨_, rfl⟩
      rw [← hn8] at S8 SG ⊢
      have SO2 := Aside0.mk (own_base SO.out (Nat.zero_le _))
      clear hn8 SO
      go_loopw [9] (fun v9 ws => ∃ (i : Nat) (m : List Int), v9 = .int .i64 i ∧ Aside0 (i ≤ 16) ∧ Aside0 (m.length = 16) ∧ Aside0 (m.take i = Y.take i) ∧ Aside0 (Blk ws n8 (wordsA m) 29) ∧ Aside0 (Blk ws n3 (wordsA H) 28) ∧ Aside0 (Below n3 w3 ws) ∧ Aside0 (ws.ownsRow 0 27 1 (.slice (some ⟨g, 0, none⟩) 16 cap) 16 (Y.map (Value.int .u32)))) (fun v9 _ => 16 - (intOf v9).toNat)
      case atStart => exact ⟨0, List.replicate 16 0, rfl, ⟨by omega⟩, ⟨rfl⟩, ⟨rfl⟩, S8, S3, SB, SO2⟩
      case round =>
        clear S8 S3 SB SO2
        obtain ⟨i, m, rfl, HI, HML, HMT, S8, S3, SB, SO⟩ := hrel
        by_cases hi : i < 16
        · have hcl : wr.cell? ⟨g, i, none⟩ = some (.int .u32 (Y.getD i 0)) := by
            rw [SO.out.cellAt i (by omega)]
            simp [HYL.out, hi]
          obtain ⟨y, hy⟩ : ∃ y, y = Y.getD i 0 := ⟨_, rfl⟩
          rw [← hy] at hcl
          have hst := S8.out.cell i _ (wordsA_at m i (by rw [HML.out]; exact hi))
          have hfz := S8.out.frozen i
          have hj0 : (0 : Int) ≤ i := Int.natCast_nonneg _
          have hj1 : (i : Int) < 16 := by omega
          have HII := Aside0.mk hi
          have HYY := Aside0.mk hy
          clear hi hy
          go_wp2
          go_roundw
          case measure => have := HII.out; simp [intOf]; omega
          case rel =>
            refine ⟨i + 1, m.set i y, by simp, ⟨by have := HII.out; omega⟩, ⟨by rw [List.length_set]; exact HML.out⟩, ⟨by rw [HYY.out]; exact take_set_succ m Y i HMT.out (by rw [HML.out]; exact HII.out) (by rw [HYL.out]; exact HII.out)⟩, ⟨S8.out.put i _ (wordsA_set m i y)⟩, ⟨S3.out.grown (put_grown _ n8 i _) (by have := SG.out; omega)⟩, ⟨below_grown SB.out (put_grown _ n8 i _) (by have := SG.out; omega) (Nat.le_of_lt S3.out.lt)⟩, ⟨own_grown SO.out (put_grown _ n8 i _) (by have := SG.out; omega)⟩⟩
        · have hmY : m = Y := by
            have h := HMT.out
            have hi16 : i = 16 := by have := HI.out; omega
            rw [hi16, List.take_of_length_le (by rw [HML.out]; omega), List.take_of_length_le (by rw [HYL.out]; omega)] at h
            exact h
          subst hmY
          have hj1 : ¬ (i : Int) < 16 := by omega
          clear hi
          go_wp2_with (first
            | (refine wpList_load_blk rfl 28 (.tmp 4) rfl n3 rfl 28 (wordsA H) 8 27 S3.out Try.underlying28 (by rw [words_size, HHL.out]; kernel_rfl) ?_)
            | (refine wpList_load_blk rfl 29 (.tmp 8) rfl n8 rfl 29 (wordsA m) 16 27 S8.out Try.underlying29 (by rw [words_size, HML.out]; kernel_rfl) ?_)
            | (go_at_call 16; refine (rblock_any H m _ HHL.out HML.out HHW.out HYW.out).mono ?_; rintro e w7 ⟨rfl, hb7⟩; have T3 := Aside0.mk (S3.out.below hb7 S3.out.lt); have TB := Aside0.mk (SB.out.trans (hb7.mono (Nat.le_of_lt S3.out.lt))); clear hb7 S3 SB S8 SO)
            | (refine wpList_store_blk rfl 28 (.tmp 4) (.tmp 44) rfl n3 (wordsA (blockR H m)) rfl rfl 28 _ T3.out (by rw [words_size, block_len _ _ HHL.out]; kernel_rfl) (by rw [words_size, words_size, block_len _ _ HHL.out, HHL.out]) (words_one _) ?_; intro w8 hv hg; have V3 := Aside0.mk hv; have VB := Aside0.mk (below_grown TB.out hg (Nat.le_refl _) (Nat.le_of_lt T3.out.lt)); clear hv hg T3 TB))
          go_roundw
          case measure => have := HJ.out; have := HPM.out; simp [intOf]; omega
          case rel => exact ⟨j + 1, blockR H m, by first | rfl | (congr 1; done) | (congr 1; omega) | (congr 1; push_cast; omega), ⟨by have := HJ.out; omega, HNX.out⟩, ⟨block_len _ _ HHL.out⟩, ⟨block_words _ _ HHW.out⟩, V3, VB⟩
    · have hjM : j = M := by have := HS.out.1; omega
      have hH : H = FIN := by
        have h := HS.out.2
        rw [hjM, Nat.sub_self, sumL] at h
        exact h
      subst hH
      have hi1 : ¬ (64 : Int) * j < P0.length := by have := HPM.out; omega
      clear hx HS
      go_wp2_with (first
        | (refine wpList_build_as rfl 32 _ rfl (bytesA (List.replicate 32 0)) (by as_aux_lemma => kernel_rfl) ?_)
        | (refine wpList_store_blk rfl 32 (.tmp 10) (.tmp 45) rfl wr.heap.size (bytesA (List.replicate 32 0)) rfl rfl 32 _ (Blk.new wr _ _) (by kernel_rfl) rfl (by kernel_rfl) ?_; intro w6 hv hg; have S10 := Aside0.mk hv; have S3 := Aside0.mk ((R3.out.alloc _).grown hg (by have := R3.out.lt; omega)); have SB := Aside0.mk (below_grown (RB.out.alloc (Nat.le_of_lt R3.out.lt) _) hg (Nat.le_of_lt R3.out.lt) (by have := R3.out.lt; simp only [World.size_alloc]; omega)); have SG := Aside0.mk (show n3 < wr.heap.size from R3.out.lt); clear hv hg R3 RB)
        | (go_at_call 36; refine (rbytes_any n3 28 H _ S3.out HHL.out HHW.out).mono ?_; rintro e w5 ⟨g, cap, rfl, hown, hb5⟩; have T10 := Aside0.mk (S10.out.below hb5 S10.out.lt); have TB := Aside0.mk (SB.out.trans (hb5.mono (Nat.le_of_lt S3.out.lt))); have TG := Aside0.mk (show wr.heap.size < g by have := (hown.lt g rfl).1; have := S10.out.lt; omega); have TO := Aside0.mk (own_base hown (Nat.zero_le _)); clear hown hb5 S3 SB S10))
      obtain ⟨n10, hn10⟩ : ∃ n, n = wr.heap.size := ⟨_, rfl⟩
      rw [← hn10] at T10 TG SG ⊢
      clear hn10
      obtain ⟨Y, hY⟩ : ∃ Y, Y = bytesOfW H := ⟨_, rfl⟩
      have HYL : Aside0 (Y.length = 32) := ⟨by rw [hY, bytesOfW_length, HHL.out]⟩
      rw [← hY] at TO
      have HYB := Aside0.mk hY
      clear hY
      go_loopw [12] (fun v12 wq => ∃ (i : Nat) (m : List Int), v12 = .int .i64 i ∧ Aside0 (i ≤ 32) ∧ Aside0 (m.length = 32) ∧ Aside0 (m.take i = Y.take i) ∧ Aside0 (Blk wq n10 (bytesA m) 32) ∧ Aside0 (Below n3 w3 wq) ∧ Aside0 (wq.ownsRow 0 5 1 (.slice (some ⟨g, 0, none⟩) 32 cap) 32 (Y.map (Value.int .u8)))) (fun v12 _ => 32 - (intOf v12).toNat)
      case atStart => exact ⟨0, List.replicate 32 0, rfl, ⟨by omega⟩, ⟨rfl⟩, ⟨rfl⟩, T10, TB, TO⟩
      case round =>
        clear T10 TB TO
        obtain ⟨i, m, rfl, HI, HML, HMT, S10, SB, SO⟩ := hrel
        by_cases hi : i < 32
        · have hcl : wr.cell? ⟨g, i, none⟩ = some (.int .u8 (Y.getD i 0)) := by
            rw [SO.out.cellAt i (by omega)]
            simp [HYL.out, hi]
          obtain ⟨y, hy⟩ : ∃ y, y = Y.getD i 0 := ⟨_, rfl⟩
          rw [← hy] at hcl
          have hst := S10.out.cell i _ (bytesA_at m i (by rw [HML.out]; exact hi))
          have hfz := S10.out.frozen i
          have hj0 : (0 : Int) ≤ i := Int.natCast_nonneg _
          have hj1 : (i : Int) < 32 := by omega
          have HII := Aside0.mk hi
          have HYY := Aside0.mk hy
          clear hi hy
          go_wp2
          go_roundw
          case measure => have := HII.out; simp [intOf]; omega
          case rel =>
            refine ⟨i + 1, m.set i y, by simp, ⟨by have := HII.out; omega⟩, ⟨by rw [List.length_set]; exact HML.out⟩, ⟨by rw [HYY.out]; exact take_set_succ m Y i HMT.out (by rw [HML.out]; exact HII.out) (by rw [HYL.out]; exact HII.out)⟩, ⟨S10.out.put i _ (bytesA_set m i y)⟩, ⟨below_grown SB.out (put_grown _ n10 i _) (by have := SG.out; omega) (by have := SG.out; have := S10.out.lt; omega)⟩, ⟨own_grown SO.out (put_grown _ n10 i _) (by have := TG.out; omega)⟩⟩
        · have hmY : m = Y := by
            have h := HMT.out
            have hi16 : i = 32 := by have := HI.out; omega
            rw [hi16, List.take_of_length_le (by rw [HML.out]; omega), List.take_of_length_le (by rw [HYL.out]; omega)] at h
            exact h
          subst hmY
          have hj1 : ¬ (i : Int) < 32 := by omega
          have K2 := Aside0.mk (Q2.out.below SB.out H23.out)
          have KB := Aside0.mk (QB.out.trans (SB.out.mono (Nat.le_of_lt H23.out)))
          clear hi
          go_wp2_with (first
            | (refine wpList_load_blk rfl 32 (.tmp 10) rfl n10 rfl 32 (bytesA m) 32 5 S10.out Try.underlying32 (by rw [bytes_size, HML.out]; kernel_rfl) ?_)
            | (refine wpList_store_blk rfl 32 (.tmp 2) (.tmp 58) rfl n2 (bytesA m) rfl rfl 32 _ K2.out (by rw [bytes_size, HML.out]; kernel_rfl) (by rw [bytes_size, bytes_size, HML.out]; rfl) (bytes_one _) ?_; intro w9 hv hg; have gb := Aside0.mk (below_grown KB.out hg (Nat.le_refl _) (Nat.le_of_lt K2.out.lt)); have gv := Aside0.mk hv; clear hv hg))
          refine bodyPost_ret (v := .agg (bytesA m)) (results_cell_row (fn := Try.f18) (p := 2) (by rfl) _ _ n2 32 _ (0, 0) _ (by rfl) gv.out Try.underlying32 rfl (by rw [bytes_size, HML.out]; kernel_rfl)) rfl ⟨by rw [← HYB.out], by rw [← HN0.out]; exact gb.out⟩
end Go.Proofs.Ytbakfengmehkkaa.G
