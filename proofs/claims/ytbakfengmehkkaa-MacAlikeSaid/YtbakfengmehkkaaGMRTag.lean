/- The walk of gatelineref03.Tag (written by gen_mrtag.py). -/
import Derived.Test.YtbakfengmehkkaaGMRBlock
namespace Go.Proofs.Ytbakfengmehkkaa.G
open Go Go.RowKit Go.Proofs.Ytbakfengmehkkaa.PL Go.Proofs.Ytbakfengmehkkaa.Q Go.Proofs.YtbakfengmehkkaaW.PrintWords Go.Proofs.YtbakfengmehkkaaW.PrintLast Go.Proofs.YtbakfengmehkkaaW.PrintMore
/-- Two rows of the call's own that are being appended to. -/
structure TW (nb : Nat) (w2 W : World) (a b : List Int) (u v : Value) : Prop where
  r6 : Kd.R (Kd.int .u8) 5 W nb (fun _ => True) u a
  r7 : Kd.R (Kd.int .u8) 5 W nb (fun _ => True) v b
  ne : ∀ k, u.ownBlock = some k → some k ≠ v.ownBlock
  hb : Below nb w2 W
  hs : nb ≤ W.heap.size
section
variable {nb : Nat} {w2 W w1 : World} {a b a' b' : List Int} {u v v1 : Value}
theorem TW.app6 (s : TW nb w2 W a b u v) (hr : Kd.R (Kd.int .u8) 5 w1 nb (fun _ => True) v1 a') (hb : Below nb w2 w1) (hg : W.grownBy w1 u.ownBlock) (hat : v1.ownBlock = u.ownBlock ∨ ∃ k, v1.ownBlock = some k ∧ W.heap.size ≤ k) : TW nb w2 w1 a' b v1 v :=
  ⟨hr, Kd.R_grown2 s.r7 rfl hg s.ne, fun k hk e => by
    rcases hat with h | ⟨j, hj, hle⟩
    · exact s.ne k (h ▸ hk) e
    · rw [hj] at hk
      obtain rfl := Option.some.inj hk
      have := Kd.R_lt s.r7 j e.symm
      omega, hb, Nat.le_trans s.hs hg.size⟩
theorem TW.app7 (s : TW nb w2 W a b u v) (hr : Kd.R (Kd.int .u8) 5 w1 nb (fun _ => True) v1 b') (hb : Below nb w2 w1) (hg : W.grownBy w1 v.ownBlock) (hat : v1.ownBlock = v.ownBlock ∨ ∃ k, v1.ownBlock = some k ∧ W.heap.size ≤ k) : TW nb w2 w1 a b' u v1 :=
  ⟨Kd.R_grown2 s.r6 rfl hg (fun k hk e => s.ne k e.symm hk.symm), hr, fun k hk e => by
    rcases hat with h | ⟨j, hj, hle⟩
    · exact s.ne k hk (h ▸ e)
    · rw [hj] at e
      obtain rfl := Option.some.inj e
      have := Kd.R_lt s.r6 k hk
      omega, hb, Nat.le_trans s.hs hg.size⟩
theorem TW.below (s : TW nb w2 W a b u v) (h : Below W.heap.size W w1) : TW nb w2 w1 a b u v := ⟨Kd.R_below s.r6 h, Kd.R_below s.r7 h, s.ne, s.hb.trans (h.mono s.hs), Nat.le_trans s.hs h.size⟩
theorem TW.alloc (s : TW nb w2 W a b u v) (o : Obj) : TW nb w2 (W.alloc o) a b u v := s.below (below_alloc (Below.refl _ _) o)
theorem TW.grown {g : Nat} (s : TW nb w2 W a b u v) (hg : W.grownBy w1 (some g)) (hn : W.heap.size ≤ g ∨ False) : TW nb w2 w1 a b u v :=
  have hn := hn.resolve_right id
  ⟨Kd.R_grown2 s.r6 rfl hg (fun k hk e => by have := Kd.R_lt s.r6 k e.symm; have := Option.some.inj hk; omega), Kd.R_grown2 s.r7 rfl hg (fun k hk e => by have := Kd.R_lt s.r7 k e.symm; have := Option.some.inj hk; omega), s.ne, below_grown s.hb hg (Nat.le_trans s.hs hn) s.hs, Nat.le_trans s.hs hg.size⟩
end
theorem xor_take (m : Int) (K : List Int) (i : Nat) (hi : i < K.length) : (K.take i).map (xorB m) ++ [bits .xor .u8 (K.getD i 0) m] = (K.take (i + 1)).map (xorB m) := by
  rw [List.take_add_one, List.getElem?_eq_getElem hi, List.map_append, List.getD_eq_getElem?_getD, List.getElem?_eq_getElem hi]
  rfl
theorem xrsum_any (A0 : Option Addr) (c0 n : Nat) (l0 : List Int) (w : World) (hn : l0.length = n) (hr : Kd.C (Kd.int .u8) w A0 n l0) (hc : n ≤ c0) (hl : l0.length ≤ 100000) (hb : IsBytes l0) :
    Calls Try.prog 18 #[.slice A0 n c0] w fun e w' => e = .returned (.agg (bytesA (sumR l0))) ∧ Below w.heap.size w w' := by
  subst hn
  exact rsum_any A0 c0 l0 w hr hc hl hb
set_option maxRecDepth 100000 in
set_option maxHeartbeats 4000000 in
theorem mrtag_any (A0 : Option Addr) (c0 : Nat) (l0 : List Int) (A1 : Option Addr) (c1 : Nat) (l1 : List Int) (w : World) (hr0 : Kd.C (Kd.int .u8) w A0 l0.length l0) (hc0 : l0.length ≤ c0) (hl0 : l0.length ≤ 50000) (hb0 : IsBytes l0) (hr1 : Kd.C (Kd.int .u8) w A1 l1.length l1) (hc1 : l1.length ≤ c1) (hl1 : l1.length ≤ 50000) (hb1 : IsBytes l1) :
    Calls Try.prog 24 #[.slice A0 l0.length c0, .slice A1 l1.length c1] w fun e w' => e = .returned (.agg (bytesA (tagR l0 l1))) ∧ Below w.heap.size w w' := by
  have HR := Aside0.mk hr0
  have HC := Aside0.mk hc0
  have HL := Aside0.mk hl0
  have HBY := Aside0.mk hb0
  have HR1 := Aside0.mk hr1
  have HC1 := Aside0.mk hc1
  have HL1 := Aside0.mk hl1
  have HBY1 := Aside0.mk hb1
  clear hr0 hc0 hl0 hb0 hr1 hc1 hl1 hb1
  go_enter Try.func24, Try.ntmps24
  go_upto_region 1 with (first | (fail))
  have g5 : Blk (w.alloc (.cells #[.int .u8 0, .int .u8 0, .int .u8 0, .int .u8 0, .int .u8 0, .int .u8 0, .int .u8 0, .int .u8 0, .int .u8 0, .int .u8 0, .int .u8 0, .int .u8 0, .int .u8 0, .int .u8 0, .int .u8 0, .int .u8 0, .int .u8 0, .int .u8 0, .int .u8 0, .int .u8 0, .int .u8 0, .int .u8 0, .int .u8 0, .int .u8 0, .int .u8 0, .int .u8 0, .int .u8 0, .int .u8 0, .int .u8 0, .int .u8 0, .int .u8 0, .int .u8 0] 32)) w.heap.size (bytesA (List.replicate 32 0)) 32 := Blk.new w #[.int .u8 0, .int .u8 0, .int .u8 0, .int .u8 0, .int .u8 0, .int .u8 0, .int .u8 0, .int .u8 0, .int .u8 0, .int .u8 0, .int .u8 0, .int .u8 0, .int .u8 0, .int .u8 0, .int .u8 0, .int .u8 0, .int .u8 0, .int .u8 0, .int .u8 0, .int .u8 0, .int .u8 0, .int .u8 0, .int .u8 0, .int .u8 0, .int .u8 0, .int .u8 0, .int .u8 0, .int .u8 0, .int .u8 0, .int .u8 0, .int .u8 0, .int .u8 0] 32
  have gb := below_alloc (Below.refl w.heap.size w) (.cells #[.int .u8 0, .int .u8 0, .int .u8 0, .int .u8 0, .int .u8 0, .int .u8 0, .int .u8 0, .int .u8 0, .int .u8 0, .int .u8 0, .int .u8 0, .int .u8 0, .int .u8 0, .int .u8 0, .int .u8 0, .int .u8 0, .int .u8 0, .int .u8 0, .int .u8 0, .int .u8 0, .int .u8 0, .int .u8 0, .int .u8 0, .int .u8 0, .int .u8 0, .int .u8 0, .int .u8 0, .int .u8 0, .int .u8 0, .int .u8 0, .int .u8 0, .int .u8 0] 32)
  obtain ⟨n4, hn4⟩ : ∃ n, n = w.heap.size := ⟨_, rfl⟩
  have HN4 := Aside0.mk hn4
  generalize w.alloc (.cells #[.int .u8 0, .int .u8 0, .int .u8 0, .int .u8 0, .int .u8 0, .int .u8 0, .int .u8 0, .int .u8 0, .int .u8 0, .int .u8 0, .int .u8 0, .int .u8 0, .int .u8 0, .int .u8 0, .int .u8 0, .int .u8 0, .int .u8 0, .int .u8 0, .int .u8 0, .int .u8 0, .int .u8 0, .int .u8 0, .int .u8 0, .int .u8 0, .int .u8 0, .int .u8 0, .int .u8 0, .int .u8 0, .int .u8 0, .int .u8 0, .int .u8 0, .int .u8 0] 32) = U0 at *
  rw [← hn4] at g5 gb
  try rw [← hn4]
  clear hn4
  have G4 := Aside0.mk g5
  have GB := Aside0.mk gb
  clear g5 gb
  go_upto_region 2 with (first
    | (go_at_call 26; refine (mrblock_any A0 c0 l0 _ (C_low HR.out (by rw [← HN4.out]; exact GB.out)) HC.out (by have := HL.out; omega) HBY.out).mono ?_; rintro e w1 ⟨rfl, hb⟩; have P4 := Aside0.mk (G4.out.below hb G4.out.lt); have PB := Aside0.mk (GB.out.trans (hb.mono (Nat.le_of_lt G4.out.lt))); clear hb G4 GB)
    | (refine wpList_store_blk rfl 41 (.tmp 5) (.tmp 11) rfl w1.heap.size (bytesA (blkL l0)) rfl rfl 41 _ (Blk.new w1 _ _) (by rw [bytes_size, blkL_len]; kernel_rfl) (by rw [bytes_size, blkL_len]; try rfl) (bytes_one _) ?_; intro w2 hv hg; have Q5 := Aside0.mk hv; have Q4 := Aside0.mk ((P4.out.alloc _).grown hg (by have := P4.out.lt; omega)); have QB := Aside0.mk (below_grown (PB.out.alloc (Nat.le_of_lt P4.out.lt) _) hg (Nat.le_of_lt P4.out.lt) (by have := P4.out.lt; simp only [World.size_alloc]; omega)); clear hv hg))
  obtain ⟨n5, hn5⟩ : ∃ n, n = w1.heap.size := ⟨_, rfl⟩
  rw [← hn5] at Q5
  try rw [← hn5]
  clear hn5 P4 PB
  obtain ⟨nb, hnb⟩ : ∃ nb, nb = w2.heap.size := ⟨_, rfl⟩
  have L4 : Aside0 (n4 < nb) := ⟨by rw [hnb]; exact Q4.out.lt⟩
  have L5 : Aside0 (n5 < nb) := ⟨by rw [hnb]; exact Q5.out.lt⟩
  have S0 : Aside0 (nb ≤ w2.heap.size ∧ Below nb w2 w2) := ⟨Nat.le_of_eq hnb, Below.refl _ _⟩
  have HNB := Aside0.mk hnb
  clear hnb
  have HI : Aside0 (sumR ((blkL l0).map (xorB 54) ++ l1) = innerR l0 l1) := ⟨rfl⟩
  have HT : Aside0 (sumR ((blkL l0).map (xorB 92) ++ innerR l0 l1) = tagR l0 l1) := ⟨rfl⟩
  have HXI : Aside0 ((innerR l0 l1).length = 32) := ⟨sumR_len _⟩
  have HXB : Aside0 (IsBytes (innerR l0 l1)) := ⟨sumR_isBytes _⟩
  have HTL : Aside0 ((tagR l0 l1).length = 32) := ⟨tagR_len _ _⟩
  have HKL : Aside0 ((blkL l0).length = 64) := ⟨blkL_len l0⟩
  generalize blkL l0 = K at *
  generalize innerR l0 l1 = IN at *
  obtain ⟨TG, hTG⟩ : ∃ TG, TG = tagR l0 l1 := ⟨_, rfl⟩
  rw [← hTG] at HT HTL
  have HTG := Aside0.mk hTG
  clear hTG
  have HX6 : Aside0 (IsBytes (K.map (xorB 54))) := ⟨xorB_isBytes 54 K⟩
  have HX7 : Aside0 (IsBytes (K.map (xorB 92))) := ⟨xorB_isBytes 92 K⟩
  go_wp2_with (first
    | ((with_reducible refine gate_dst (N := 12) rfl ?_); refine Kd.R_lit (Kd.int .u8) (w0 := w2) nb 5 ?hg (N := 12) ?hd (xs := ([] : List Int)) (inner := []) (ok := fun _ => True) (okp := fun _ => True) ?hr ?hp (fun _ hk => hk) trivial S0.out.2 (by exact S0.out.1) (by simp) ?_; (case hd => rfl); (case hg => rfl); (case hr => first | (go_simp; done) | (go_simp; rfl)); (case hp => exact (Reps.none _ _)); intro u6 w3 ho hb hg hnew; have S1 := Aside0.mk (show (nb ≤ w3.heap.size ∧ Below nb w2 w3) from ⟨Nat.le_trans S0.out.1 hg.size, hb⟩); have R1 := Aside0.mk ho; clear ho hb hg hnew)
    | ((with_reducible refine gate_dst (N := 13) rfl ?_); refine Kd.R_lit (Kd.int .u8) (w0 := w2) nb 5 ?hg (N := 13) ?hd (xs := ([] : List Int)) (inner := []) (ok := fun _ => True) (okp := fun _ => True) ?hr ?hp (fun _ hk => hk) trivial S1.out.2 (by exact S1.out.1) (by simp) ?_; (case hd => rfl); (case hg => rfl); (case hr => first | (go_simp; done) | (go_simp; rfl)); (case hp => exact (Reps.none _ _)); intro u7 w4 ho hb hg hnew; have S2 := Aside0.mk (show TW nb w2 w4 ((K.take 0).map (xorB 54)) ((K.take 0).map (xorB 92)) u6 u7 from ⟨Kd.R_grown2 R1.out rfl hg (fun k hk => by cases hk), ho, fun k hk e => by obtain ⟨j, hj, hle⟩ := hnew; rw [hj] at e; obtain rfl := Option.some.inj e; have := Kd.R_lt R1.out k hk; omega, hb, Nat.le_trans S1.out.1 hg.size⟩); clear ho hb hg hnew R1 S1 S0))
  go_loopw [6, 7, 8] (fun v6 v7 v8 wr => ∃ i : Nat, v8 = .int .i64 i ∧ Aside0 (i ≤ 64) ∧ Aside0 (TW nb w2 wr ((K.take i).map (xorB 54)) ((K.take i).map (xorB 92)) v6 v7)) (fun _ _ v8 _ => 64 - (intOf v8).toNat)
  case atStart => exact ⟨0, rfl, ⟨by omega⟩, S2⟩
  case round =>
    clear S2
    obtain ⟨i, rfl, HI8, S⟩ := hrel
    by_cases hi : i < 64
    · have hcl := (Q5.out.below S.out.hb L5.out).cell i _ (bytesA_at K i (by rw [HKL.out]; exact hi))
      obtain ⟨y, hy⟩ : ∃ y, y = K.getD i 0 := ⟨_, rfl⟩
      have e6 := xor_take 54 K i (by rw [HKL.out]; exact hi)
      have e7 := xor_take 92 K i (by rw [HKL.out]; exact hi)
      rw [← hy] at hcl e6 e7
      have HY := Aside0.mk hy
      have E6 := Aside0.mk e6
      have E7 := Aside0.mk e7
      clear hy e6 e7
      have hj0 : (0 : Int) ≤ i := Int.natCast_nonneg _
      have hj1 : (i : Int) < 64 := by omega
      have HII := Aside0.mk hi
      clear hi
      go_wp2_with (first
        | ((with_reducible refine gate_builtin (b := .append) (xs := #[.tmp 18, .tmp 23]) rfl ?_); at_builtin; refine Kd.R_append (Kd.int .u8) (w0 := w2) nb rfl (.tmp 18) (.tmp 23) 22 5 (.int .u8 0) 1 rfl Try.underlying22 info5 rfl (by decide) (by omega) u6 ((K.take i).map (xorB 54)) (bits .xor .u8 y 54) [.int .u8 (bits .xor .u8 y 54)] (fun _ => True) (fun _ => False) rfl rfl rfl (fun _ hk => hk.elim) (fun _ _ => trivial) S.out.r6 S.out.hb S.out.hs (by have := HII.out; rw [List.length_map, List.length_take]; omega) ?_; intro v61 w11 ho hb hg hat; rw [E6.out] at ho; have S1 := Aside0.mk (S.out.app6 ho hb hg hat); have hcl2 := (Q5.out.below S1.out.hb L5.out).cell i _ (bytesA_at K i (by rw [HKL.out]; exact HII.out)); rw [← HY.out] at hcl2; clear ho hb hg hat S)
        | ((with_reducible refine gate_builtin (b := .append) (xs := #[.tmp 25, .tmp 30]) rfl ?_); at_builtin; refine Kd.R_append (Kd.int .u8) (w0 := w2) nb rfl (.tmp 25) (.tmp 30) 22 5 (.int .u8 0) 1 rfl Try.underlying22 info5 rfl (by decide) (by omega) u7 ((K.take i).map (xorB 92)) (bits .xor .u8 y 92) [.int .u8 (bits .xor .u8 y 92)] (fun _ => True) (fun _ => False) rfl rfl rfl (fun _ hk => hk.elim) (fun _ _ => trivial) S1.out.r7 S1.out.hb S1.out.hs (by have := HII.out; rw [List.length_map, List.length_take]; omega) ?_; intro v71 w12 ho hb hg hat; rw [E7.out] at ho; have S2 := Aside0.mk (S1.out.app7 ho hb hg hat); clear ho hb hg hat S1))
      go_roundw
      case measure => have := HII.out; simp [intOf]; omega
      case rel => exact ⟨i + 1, by simp, ⟨by have := HII.out; omega⟩, S2⟩
    · have hj1 : ¬ (i : Int) < 64 := by omega
      have hi64 : K.take i = K := List.take_of_length_le (by rw [HKL.out]; omega)
      rw [hi64] at S
      clear hi hi64 HI8
      go_upto_region 10 with (first
        | ((with_reducible refine gate_builtin (b := .append) (xs := #[.tmp 32, .tmp 33]) rfl ?_); at_builtin; refine Kd.R_append_rows (Kd.int .u8) (w0 := w2) nb rfl (.tmp 32) (.tmp 33) 22 5 (.int .u8 0) 1 rfl Try.underlying22 info5 rfl (by decide) (by omega) u6 (K.map (xorB 54)) l1 A1 l1.length c1 (fun _ => True) (fun _ => False) rfl rfl S.out.r6 (Kd.C_below (Kd.C_below HR1.out (by rw [← HN4.out]; exact QB.out)) (by rw [← HNB.out]; exact S.out.hb)) (fun _ _ h => h) (fun _ h => h.elim) (fun _ _ => trivial) S.out.hb S.out.hs (by rw [List.length_map, HKL.out]; have := HL1.out; omega) ?_; intro u9 w9 ho hb hg hat; have S9 := Aside0.mk (S.out.app6 ho hb hg hat); obtain ⟨A9, c9, rfl, RL, RC⟩ := Kd.R_reads ho; have HN9 : Aside0 ((K.map (xorB 54) ++ l1).length = K.length + l1.length) := ⟨by rw [List.length_append, List.length_map]⟩; rw [HN9.out] at RL RC; have RL9 := Aside0.mk RL; have RC9 := Aside0.mk RC; clear ho hb hg hat S RL RC)
        | (go_at_call 18; refine (xrsum_any A9 c9 (K.length + l1.length) (K.map (xorB 54) ++ l1) _ HN9.out RC9.out RL9.out (by rw [List.length_append, List.length_map, HKL.out]; have := HL1.out; omega) (isBytes_app HX6.out HBY1.out)).mono ?_; rintro e w10 ⟨rfl, hb⟩; rw [HI.out]; have S10 := Aside0.mk (S9.out.below hb); clear hb)
        | (refine wpList_store_blk rfl 32 (.tmp 9) (.tmp 35) rfl w10.heap.size (bytesA IN) rfl rfl 32 _ (Blk.new w10 _ _) (by rw [bytes_size, HXI.out]; kernel_rfl) (by rw [bytes_size, HXI.out]; try rfl) (bytes_one _) ?_; intro w11 hv hg; have B11 := Aside0.mk hv; have S11 := Aside0.mk (show TW nb w2 w11 _ _ _ _ from ⟨Kd.R_grown2 (S10.out.alloc _).r6 rfl hg (fun k hk e => by have := Kd.R_lt S10.out.r6 k e.symm; have := Option.some.inj hk; omega), Kd.R_grown2 (S10.out.alloc _).r7 rfl hg (fun k hk e => by have := Kd.R_lt S10.out.r7 k e.symm; have := Option.some.inj hk; omega), S10.out.ne, below_grown (S10.out.alloc _).hb hg S10.out.hs (by have := S10.out.hs; simp only [World.size_alloc]; omega), Nat.le_trans S10.out.hs (Nat.le_trans (by simp) hg.size)⟩); clear hv hg))
      obtain ⟨n9, hn9⟩ : ∃ n, n = w10.heap.size := ⟨_, rfl⟩
      rw [← hn9] at B11
      try rw [← hn9]
      clear hn9 S9 S10
      go_wp2_with (first
        | ((with_reducible refine gate_builtin (b := .append) (xs := #[.tmp 36, .tmp 37]) rfl ?_); at_builtin; refine Kd.R_append_rows (Kd.int .u8) (w0 := w2) nb rfl (.tmp 36) (.tmp 37) 22 5 (.int .u8 0) 1 rfl Try.underlying22 info5 rfl (by decide) (by omega) u7 (K.map (xorB 92)) IN (some ⟨n9, 0, none⟩) 32 32 (fun _ => True) (fun _ => False) rfl rfl S11.out.r7 (by have h := C_of_blk8 B11.out (by rw [HXI.out]; decide); rw [HXI.out] at h; exact h) (fun _ _ h => h) (fun _ h => h.elim) (fun _ _ => trivial) S11.out.hb S11.out.hs (by rw [List.length_map, HKL.out]; decide) ?_; intro u12 w12 ho hb hg hat; have S12 := Aside0.mk (S11.out.app7 ho hb hg hat); obtain ⟨A12, c12, rfl, RL, RC⟩ := Kd.R_reads ho; have HN12 : Aside0 ((K.map (xorB 92) ++ IN).length = K.length + IN.length) := ⟨by rw [List.length_append, List.length_map]⟩; rw [HN12.out] at RL RC; have RL12 := Aside0.mk RL; have RC12 := Aside0.mk RC; clear ho hb hg hat S11 RL RC)
        | (go_at_call 18; refine (xrsum_any A12 c12 (K.length + IN.length) (K.map (xorB 92) ++ IN) _ HN12.out RC12.out RL12.out (by rw [List.length_append, List.length_map, HKL.out, HXI.out]; decide) (isBytes_app HX7.out HXB.out)).mono ?_; rintro e w13 ⟨rfl, hb⟩; rw [HT.out]; have S13 := Aside0.mk (S12.out.below hb); clear hb)
        | (refine wpList_store_blk rfl 32 (.tmp 4) (.tmp 39) rfl n4 (bytesA TG) rfl rfl 32 _ (Q4.out.below S13.out.hb L4.out) (by rw [bytes_size, HTL.out]; kernel_rfl) (by rw [bytes_size, bytes_size, HTL.out]; rfl) (bytes_one _) ?_; intro w14 hv9 hg9; have gv := Aside0.mk hv9; have gb := Aside0.mk (below_grown (QB.out.trans (S13.out.hb.mono (Nat.le_of_lt L4.out))) hg9 (Nat.le_refl _) (by have := S13.out.hs; have := L4.out; omega)); clear hv9 hg9))
      refine bodyPost_ret (v := .agg (bytesA TG)) (results_cell_row (fn := Try.f24) (p := 4) (by rfl) _ _ n4 32 _ (0, 0) _ (by rfl) gv.out Try.underlying32 rfl (by rw [bytes_size, HTL.out]; kernel_rfl)) rfl ⟨by rw [HTG.out], by rw [← HN4.out]; exact gb.out⟩
end Go.Proofs.Ytbakfengmehkkaa.G
