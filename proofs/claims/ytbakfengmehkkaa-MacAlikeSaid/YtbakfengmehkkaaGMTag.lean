/- The walks of mac.Tag's inner function (one side) and of mac.Tag (written by gen_mtag.py). -/
import Derived.Test.YtbakfengmehkkaaGMBlock
namespace Go.Proofs.Ytbakfengmehkkaa.G
open Go Go.RowKit Go.Proofs.Ytbakfengmehkkaa.PL Go.Proofs.Ytbakfengmehkkaa.Q Go.Proofs.YtbakfengmehkkaaW.PrintWords Go.Proofs.YtbakfengmehkkaaW.PrintLast Go.Proofs.YtbakfengmehkkaaW.PrintMore
theorem isBytes_app {a b : List Int} (ha : IsBytes a) (hb : IsBytes b) : IsBytes (a ++ b) := fun x hx => (List.mem_append.1 hx).elim (ha x) (hb x)
theorem xsum_any (A0 : Option Addr) (c0 n : Nat) (l0 : List Int) (w : World) (hn : l0.length = n) (hr : Kd.C (Kd.int .u8) w A0 n l0) (hc : n ≤ c0) (hl : l0.length ≤ 140737488351232) (hb : IsBytes l0) :
    Calls Try.prog 17 #[.slice A0 n c0] w fun e w' => e = .returned (.agg (bytesA (sumR l0))) ∧ Below w.heap.size w w' := by
  subst hn
  exact sum_any A0 c0 l0 w hr hc hl hb
theorem xor_step (m : Int) (K L : List Int) (i : Nat) (hl : L = (K.take i).map (xorB m) ++ K.drop i) (hi : i < K.length) :
    L.getD i 0 = K.getD i 0 ∧ L.set i (xorB m (K.getD i 0)) = (K.take (i + 1)).map (xorB m) ++ K.drop (i + 1) := by
  subst hl
  have h1 : ((K.take i).map (xorB m)).length = i := by rw [List.length_map, List.length_take]; omega
  have h2 : K.drop i = K.getD i 0 :: K.drop (i + 1) := by
    rw [List.drop_eq_getElem_cons hi, List.getD_eq_getElem?_getD, List.getElem?_eq_getElem hi]
    rfl
  refine ⟨?_, ?_⟩
  · rw [List.getD_eq_getElem?_getD, List.getElem?_append_right (by omega), h1, h2]
    simp
  · rw [List.set_append_right _ _ (by omega), h1, Nat.sub_self, h2, List.set_cons_zero, List.take_add_one, List.getElem?_eq_getElem hi, List.map_append, List.append_assoc]
    simp [List.getElem?_eq_getElem hi]
theorem bytes_cell {w : World} {b : Nat} {K : List Int} {t : TypeId} (h : Blk w b (bytesA K) t) (j : Nat) (x : Int) (hx : K[j]? = some x) : w.cell? ((⟨b, 0, none⟩ : Addr).add j) = some (.int .u8 x) := by
  rw [add_lit]
  exact h.cell j _ (by simp [bytesA, hx])
set_option maxRecDepth 100000 in
set_option maxHeartbeats 4000000 in
theorem side_any (m : Int) (A0 : Option Addr) (c0 : Nat) (l0 : List Int) (b : Nat) (K : List Int) (w : World) (hK : Blk w b (bytesA K) 41) (hkl : K.length = 64) (hkb : IsBytes (K.map (xorB m))) (hr : Kd.C (Kd.int .u8) w A0 l0.length l0) (hc : l0.length ≤ c0) (hl : l0.length ≤ 1000000) (hb : IsBytes l0) :
    Calls Try.prog 37 #[.int .u8 m, .slice A0 l0.length c0, .pointer (some ⟨b, 0, none⟩)] w fun e w' => e = .returned (.agg (bytesA (sumR (K.map (xorB m) ++ l0)))) ∧ Below w.heap.size w w' := by
  have HR := Aside0.mk hr
  have HC := Aside0.mk hc
  have HL := Aside0.mk hl
  have HBY := Aside0.mk hb
  have HK := Aside0.mk hK
  have HKL := Aside0.mk hkl
  have HKB := Aside0.mk hkb
  clear hr hc hl hb hK hkl hkb
  go_enter Try.func37, Try.ntmps37
  go_upto_region 1 with (first | (fail))
  have g5 : Blk (w.alloc (.cells #[.int .u8 0, .int .u8 0, .int .u8 0, .int .u8 0, .int .u8 0, .int .u8 0, .int .u8 0, .int .u8 0, .int .u8 0, .int .u8 0, .int .u8 0, .int .u8 0, .int .u8 0, .int .u8 0, .int .u8 0, .int .u8 0, .int .u8 0, .int .u8 0, .int .u8 0, .int .u8 0, .int .u8 0, .int .u8 0, .int .u8 0, .int .u8 0, .int .u8 0, .int .u8 0, .int .u8 0, .int .u8 0, .int .u8 0, .int .u8 0, .int .u8 0, .int .u8 0] 32)) w.heap.size (bytesA (List.replicate 32 0)) 32 := Blk.new w #[.int .u8 0, .int .u8 0, .int .u8 0, .int .u8 0, .int .u8 0, .int .u8 0, .int .u8 0, .int .u8 0, .int .u8 0, .int .u8 0, .int .u8 0, .int .u8 0, .int .u8 0, .int .u8 0, .int .u8 0, .int .u8 0, .int .u8 0, .int .u8 0, .int .u8 0, .int .u8 0, .int .u8 0, .int .u8 0, .int .u8 0, .int .u8 0, .int .u8 0, .int .u8 0, .int .u8 0, .int .u8 0, .int .u8 0, .int .u8 0, .int .u8 0, .int .u8 0] 32
  have gb := below_alloc (Below.refl w.heap.size w) (.cells #[.int .u8 0, .int .u8 0, .int .u8 0, .int .u8 0, .int .u8 0, .int .u8 0, .int .u8 0, .int .u8 0, .int .u8 0, .int .u8 0, .int .u8 0, .int .u8 0, .int .u8 0, .int .u8 0, .int .u8 0, .int .u8 0, .int .u8 0, .int .u8 0, .int .u8 0, .int .u8 0, .int .u8 0, .int .u8 0, .int .u8 0, .int .u8 0, .int .u8 0, .int .u8 0, .int .u8 0, .int .u8 0, .int .u8 0, .int .u8 0, .int .u8 0, .int .u8 0] 32)
  obtain ⟨n5, hn5⟩ : ∃ n, n = w.heap.size := ⟨_, rfl⟩
  have HN5 := Aside0.mk hn5
  generalize w.alloc (.cells #[.int .u8 0, .int .u8 0, .int .u8 0, .int .u8 0, .int .u8 0, .int .u8 0, .int .u8 0, .int .u8 0, .int .u8 0, .int .u8 0, .int .u8 0, .int .u8 0, .int .u8 0, .int .u8 0, .int .u8 0, .int .u8 0, .int .u8 0, .int .u8 0, .int .u8 0, .int .u8 0, .int .u8 0, .int .u8 0, .int .u8 0, .int .u8 0, .int .u8 0, .int .u8 0, .int .u8 0, .int .u8 0, .int .u8 0, .int .u8 0, .int .u8 0, .int .u8 0] 32) = U0 at *
  rw [← hn5] at g5 gb
  try rw [← hn5]
  clear hn5
  have G5 := Aside0.mk g5
  have GB := Aside0.mk gb
  clear g5 gb
  have HK0 : Aside0 (Blk U0 b (bytesA K) 41) := ⟨HK.out.below (by rw [← HN5.out]; exact GB.out) HK.out.lt⟩
  go_wp2_with (first
    | (refine wpList_load_blk rfl 41 (.tmp 2) rfl b rfl 41 (bytesA K) 64 5 HK0.out Try.underlying41 (by rw [bytes_size, HKL.out]; kernel_rfl) ?_)
    | (refine wpList_store_blk rfl 41 (.tmp 6) (.tmp 8) rfl U0.heap.size (bytesA K) rfl rfl 41 _ (Blk.new U0 _ _) (by rw [bytes_size, HKL.out]; kernel_rfl) (by rw [bytes_size, HKL.out]; try rfl) (bytes_one _) ?_; intro w6 hv6 hg6; have K6 := Aside0.mk hv6; have K5 := Aside0.mk ((G5.out.alloc _).grown hg6 (by have := G5.out.lt; omega)); have KB := Aside0.mk (below_grown (GB.out.alloc (Nat.le_of_lt G5.out.lt) _) hg6 (Nat.le_of_lt G5.out.lt) (by have := G5.out.lt; simp only [World.size_alloc]; omega)); clear hv6 hg6))
  obtain ⟨n6, hn6⟩ : ∃ n, n = U0.heap.size := ⟨_, rfl⟩
  rw [← hn6] at K6
  try rw [← hn6]
  have H56 : Aside0 (n5 < n6) := ⟨by rw [hn6]; exact G5.out.lt⟩
  clear hn6 HK0 G5 GB
  go_loopw [9] (fun v9 wr => ∃ (i : Nat) (L : List Int), v9 = .int .i64 i ∧ Aside0 (i ≤ 64) ∧ Aside0 (L = (K.take i).map (xorB m) ++ K.drop i) ∧ Aside0 (L.length = 64) ∧ Aside0 (Blk wr n6 (bytesA L) 41) ∧ Aside0 (Blk wr n5 (bytesA (List.replicate 32 0)) 32) ∧ Aside0 (Below n5 w wr)) (fun v9 _ => 64 - (intOf v9).toNat)
  case atStart => exact ⟨0, K, rfl, ⟨by omega⟩, ⟨by simp⟩, HKL, K6, K5, KB⟩
  case round =>
    clear K6 K5 KB
    obtain ⟨i, L, rfl, HI, HLM, HLL, S6, S5, SB⟩ := hrel
    by_cases hi : i < 64
    · have hst := xor_step m K L i HLM.out (by rw [HKL.out]; exact hi)
      have hcl := S6.out.cell i _ (bytesA_at L i (by rw [HLL.out]; exact hi))
      rw [hst.1] at hcl
      have HST := Aside0.mk hst.2
      clear hst
      obtain ⟨y, hy⟩ : ∃ y, y = K.getD i 0 := ⟨_, rfl⟩
      rw [← hy] at hcl HST
      clear hy
      have hfz := S6.out.frozen i
      have hj0 : (0 : Int) ≤ i := Int.natCast_nonneg _
      have hj1 : (i : Int) < 64 := by omega
      have HII := Aside0.mk hi
      clear hi
      go_wp2
      go_roundw
      case measure => have := HII.out; simp [intOf]; omega
      case rel =>
        refine ⟨i + 1, L.set i (xorB m y), by simp, ⟨by have := HII.out; omega⟩, HST, ⟨by rw [List.length_set]; exact HLL.out⟩, ⟨S6.out.put i _ (bytesA_set L i _)⟩, ⟨S5.out.grown (put_grown _ n6 i _) (by have := H56.out; omega)⟩, ⟨below_grown SB.out (put_grown _ n6 i _) (by have := H56.out; omega) (Nat.le_of_lt S5.out.lt)⟩⟩
    · have hj1 : ¬ (i : Int) < 64 := by omega
      have hi64 : i = 64 := by have := HI.out; omega
      have HLK : Aside0 (L = K.map (xorB m)) := ⟨by rw [HLM.out, hi64, List.take_of_length_le (by rw [HKL.out]; omega), List.drop_of_length_le (by rw [HKL.out]; omega), List.append_nil]⟩
      clear hi hi64 HLM
      go_wp2_with (first
        | (refine wpList_append_full rfl (.tmp 19) (.tmp 20) 22 rfl 5 .u8 (.int .u8 0) 1 Try.underlying22 info5 ⟨n6, 0, none⟩ 64 L HLL.out (fun j x hx => bytes_cell S6.out j x hx) rfl A0 l0.length c0 l0 rfl (C_low HR.out (by rw [← HN5.out]; exact SB.out)) (by have := HL.out; omega) (by have := HL.out; unfold maxLen; omega) ?_; intro A7 c7 w7 hC7 hc7 hb7; have P5 := Aside0.mk (S5.out.below hb7 S5.out.lt); have PB := Aside0.mk (SB.out.trans (hb7.mono (Nat.le_of_lt S5.out.lt))); have PC := Aside0.mk hC7; have PL_ := Aside0.mk hc7; clear hC7 hc7 hb7 S5 S6 SB)
        | (go_at_call 17; refine (xsum_any A7 c7 _ (L ++ l0) _ (by rw [List.length_append, HLL.out]) PC.out PL_.out (by rw [List.length_append, HLL.out]; have := HL.out; omega) (by rw [HLK.out]; exact isBytes_app HKB.out HBY.out)).mono ?_; rintro e w8 ⟨rfl, hb8⟩; have Q5 := Aside0.mk (P5.out.below hb8 P5.out.lt); have QB := Aside0.mk (PB.out.trans (hb8.mono (Nat.le_of_lt P5.out.lt))); clear hb8 P5 PB)
        | (refine wpList_store_blk rfl 32 (.tmp 5) (.tmp 22) rfl n5 (bytesA (sumR (L ++ l0))) rfl rfl 32 _ Q5.out (by rw [bytes_size, sumR_len]; kernel_rfl) (by rw [bytes_size, bytes_size, sumR_len]; rfl) (bytes_one _) ?_; intro w9 hv9 hg9; have gv := Aside0.mk hv9; have gb := Aside0.mk (below_grown QB.out hg9 (Nat.le_refl _) (Nat.le_of_lt Q5.out.lt)); clear hv9 hg9))
      refine bodyPost_ret (v := .agg (bytesA (sumR (L ++ l0)))) (results_cell_row (fn := Try.f37) (p := 5) (by rfl) _ _ n5 32 _ (0, 0) _ (by rfl) gv.out Try.underlying32 rfl (by rw [bytes_size, sumR_len]; kernel_rfl)) rfl ⟨by rw [HLK.out], by rw [← HN5.out]; exact gb.out⟩
theorem xside_any (m : Int) (A0 : Option Addr) (c0 n : Nat) (l0 : List Int) (b : Nat) (K : List Int) (w : World) (hn : l0.length = n) (hK : Blk w b (bytesA K) 41) (hkl : K.length = 64) (hkb : IsBytes (K.map (xorB m))) (hr : Kd.C (Kd.int .u8) w A0 n l0) (hc : n ≤ c0) (hl : l0.length ≤ 1000000) (hb : IsBytes l0) :
    Calls Try.prog 37 #[.int .u8 m, .slice A0 n c0, .pointer (some ⟨b, 0, none⟩)] w fun e w' => e = .returned (.agg (bytesA (sumR (K.map (xorB m) ++ l0)))) ∧ Below w.heap.size w w' := by
  subst hn
  exact side_any m A0 c0 l0 b K w hK hkl hkb hr hc hl hb
theorem xorB_isBytes (m : Int) (l : List Int) : IsBytes (l.map (xorB m)) := isBytes_of fun y hy => by
  obtain ⟨x, _, rfl⟩ := List.mem_map.1 hy
  exact Go.wf_bits .xor .u8 x m
set_option maxRecDepth 100000 in
set_option maxHeartbeats 4000000 in
theorem mtag_any (A0 : Option Addr) (c0 : Nat) (l0 : List Int) (A1 : Option Addr) (c1 : Nat) (l1 : List Int) (w : World) (hr0 : Kd.C (Kd.int .u8) w A0 l0.length l0) (hc0 : l0.length ≤ c0) (hl0 : l0.length ≤ 1000000) (hb0 : IsBytes l0) (hr1 : Kd.C (Kd.int .u8) w A1 l1.length l1) (hc1 : l1.length ≤ c1) (hl1 : l1.length ≤ 1000000) (hb1 : IsBytes l1) :
    Calls Try.prog 23 #[.slice A0 l0.length c0, .slice A1 l1.length c1] w fun e w' => e = .returned (.agg (bytesA (tagR l0 l1))) ∧ Below w.heap.size w w' := by
  have HR := Aside0.mk hr0
  have HC := Aside0.mk hc0
  have HL := Aside0.mk hl0
  have HBY := Aside0.mk hb0
  have HR1 := Aside0.mk hr1
  have HC1 := Aside0.mk hc1
  have HL1 := Aside0.mk hl1
  have HBY1 := Aside0.mk hb1
  clear hr0 hc0 hl0 hb0 hr1 hc1 hl1 hb1
  go_enter Try.func23, Try.ntmps23
  go_upto_region 1 with (first | (fail))
  have g5 : Blk (w.alloc (.cells #[.int .u8 0, .int .u8 0, .int .u8 0, .int .u8 0, .int .u8 0, .int .u8 0, .int .u8 0, .int .u8 0, .int .u8 0, .int .u8 0, .int .u8 0, .int .u8 0, .int .u8 0, .int .u8 0, .int .u8 0, .int .u8 0, .int .u8 0, .int .u8 0, .int .u8 0, .int .u8 0, .int .u8 0, .int .u8 0, .int .u8 0, .int .u8 0, .int .u8 0, .int .u8 0, .int .u8 0, .int .u8 0, .int .u8 0, .int .u8 0, .int .u8 0, .int .u8 0] 32)) w.heap.size (bytesA (List.replicate 32 0)) 32 := Blk.new w #[.int .u8 0, .int .u8 0, .int .u8 0, .int .u8 0, .int .u8 0, .int .u8 0, .int .u8 0, .int .u8 0, .int .u8 0, .int .u8 0, .int .u8 0, .int .u8 0, .int .u8 0, .int .u8 0, .int .u8 0, .int .u8 0, .int .u8 0, .int .u8 0, .int .u8 0, .int .u8 0, .int .u8 0, .int .u8 0, .int .u8 0, .int .u8 0, .int .u8 0, .int .u8 0, .int .u8 0, .int .u8 0, .int .u8 0, .int .u8 0, .int .u8 0, .int .u8 0] 32
  have gb := below_alloc (Below.refl w.heap.size w) (.cells #[.int .u8 0, .int .u8 0, .int .u8 0, .int .u8 0, .int .u8 0, .int .u8 0, .int .u8 0, .int .u8 0, .int .u8 0, .int .u8 0, .int .u8 0, .int .u8 0, .int .u8 0, .int .u8 0, .int .u8 0, .int .u8 0, .int .u8 0, .int .u8 0, .int .u8 0, .int .u8 0, .int .u8 0, .int .u8 0, .int .u8 0, .int .u8 0, .int .u8 0, .int .u8 0, .int .u8 0, .int .u8 0, .int .u8 0, .int .u8 0, .int .u8 0, .int .u8 0] 32)
  obtain ⟨n4, hn4⟩ : ∃ n, n = w.heap.size := ⟨_, rfl⟩
  have HN4 := Aside0.mk hn4
  generalize w.alloc (.cells #[.int .u8 0, .int .u8 0, .int .u8 0, .int .u8 0, .int .u8 0, .int .u8 0, .int .u8 0, .int .u8 0, .int .u8 0, .int .u8 0, .int .u8 0, .int .u8 0, .int .u8 0, .int .u8 0, .int .u8 0, .int .u8 0, .int .u8 0, .int .u8 0, .int .u8 0, .int .u8 0, .int .u8 0, .int .u8 0, .int .u8 0, .int .u8 0, .int .u8 0, .int .u8 0, .int .u8 0, .int .u8 0, .int .u8 0, .int .u8 0, .int .u8 0, .int .u8 0] 32) = U0 at *
  rw [← hn4] at g5 gb
  try rw [← hn4]
  clear hn4
  have G4 := Aside0.mk g5
  have GB := Aside0.mk gb
  clear g5 gb
  go_upto_region 3 with (first
    | (go_at_call 25; refine (mblock_any A0 c0 l0 _ (C_low HR.out (by rw [← HN4.out]; exact GB.out)) HC.out (by have := HL.out; omega) HBY.out).mono ?_; rintro e w1 ⟨rfl, hb⟩; have P4 := Aside0.mk (G4.out.below hb G4.out.lt); have PB := Aside0.mk (GB.out.trans (hb.mono (Nat.le_of_lt G4.out.lt))); clear hb G4 GB)
    | (refine wpList_store_blk rfl 41 (.tmp 5) (.tmp 9) rfl w1.heap.size (bytesA (blkL l0)) rfl rfl 41 _ (Blk.new w1 _ _) (by rw [bytes_size, blkL_len]; kernel_rfl) (by rw [bytes_size, blkL_len]; try rfl) (bytes_one _) ?_; intro w2 hv hg; have Q5 := Aside0.mk hv; have Q4 := Aside0.mk ((P4.out.alloc _).grown hg (by have := P4.out.lt; omega)); have QB := Aside0.mk (below_grown (PB.out.alloc (Nat.le_of_lt P4.out.lt) _) hg (Nat.le_of_lt P4.out.lt) (by have := P4.out.lt; simp only [World.size_alloc]; omega)); clear hv hg))
  obtain ⟨n5, hn5⟩ : ∃ n, n = w1.heap.size := ⟨_, rfl⟩
  rw [← hn5] at Q5
  try rw [← hn5]
  have H45 : Aside0 (n4 < n5) := ⟨by rw [hn5]; exact P4.out.lt⟩
  clear hn5 P4 PB
  have HI : Aside0 (sumR ((blkL l0).map (xorB 54) ++ l1) = innerR l0 l1) := ⟨rfl⟩
  have HT : Aside0 (sumR ((blkL l0).map (xorB 92) ++ innerR l0 l1) = tagR l0 l1) := ⟨rfl⟩
  have HXI : Aside0 ((innerR l0 l1).length = 32) := ⟨sumR_len _⟩
  have HXB : Aside0 (IsBytes (innerR l0 l1)) := ⟨sumR_isBytes _⟩
  go_upto_region 4 with (first
    | (go_at_call 37; refine (side_any 54 A1 c1 l1 n5 (blkL l0) _ Q5.out (blkL_len _) (xorB_isBytes 54 _) (C_low HR1.out (by rw [← HN4.out]; exact QB.out)) HC1.out HL1.out HBY1.out).mono ?_; rintro e w3 ⟨rfl, hb⟩; rw [HI.out]; have R4 := Aside0.mk (Q4.out.below hb Q4.out.lt); have R5 := Aside0.mk (Q5.out.below hb Q5.out.lt); have RB := Aside0.mk (QB.out.trans (hb.mono (Nat.le_of_lt Q4.out.lt))); clear hb Q4 Q5 QB)
    | (refine wpList_store_blk rfl 32 (.tmp 7) (.tmp 13) rfl w3.heap.size (bytesA (innerR l0 l1)) rfl rfl 32 _ (Blk.new w3 _ _) (by rw [bytes_size, HXI.out]; kernel_rfl) (by rw [bytes_size, HXI.out]; try rfl) (bytes_one _) ?_; intro w4 hv hg; have S7 := Aside0.mk hv; have S4 := Aside0.mk ((R4.out.alloc _).grown hg (by have := R4.out.lt; omega)); have S5 := Aside0.mk ((R5.out.alloc _).grown hg (by have := R5.out.lt; omega)); have SB := Aside0.mk (below_grown (RB.out.alloc (Nat.le_of_lt R4.out.lt) _) hg (Nat.le_of_lt R4.out.lt) (by have := R4.out.lt; simp only [World.size_alloc]; omega)); clear hv hg))
  obtain ⟨n7, hn7⟩ : ∃ n, n = w3.heap.size := ⟨_, rfl⟩
  rw [← hn7] at S7
  try rw [← hn7]
  clear hn7 R4 R5 RB
  go_wp2_with (first
    | (go_at_call 37; refine (xside_any 92 (some ⟨n7, 0, none⟩) 32 32 (innerR l0 l1) n5 (blkL l0) _ HXI.out S5.out (blkL_len _) (xorB_isBytes 92 _) (by have h := C_of_blk8 S7.out (by rw [HXI.out]; decide); rw [HXI.out] at h; exact h) (Nat.le_refl _) (by rw [HXI.out]; decide) HXB.out).mono ?_; rintro e w5 ⟨rfl, hb⟩; rw [HT.out]; have T4 := Aside0.mk (S4.out.below hb S4.out.lt); have TB := Aside0.mk (SB.out.trans (hb.mono (Nat.le_of_lt S4.out.lt))); clear hb S4 S5 SB)
    | (refine wpList_store_blk rfl 32 (.tmp 4) (.tmp 16) rfl n4 (bytesA (tagR l0 l1)) rfl rfl 32 _ T4.out (by rw [bytes_size, tagR_len]; kernel_rfl) (by rw [bytes_size, bytes_size, tagR_len]; rfl) (bytes_one _) ?_; intro w9 hv9 hg9; have gv := Aside0.mk hv9; have gb := Aside0.mk (below_grown TB.out hg9 (Nat.le_refl _) (Nat.le_of_lt T4.out.lt)); clear hv9 hg9))
  refine bodyPost_ret (v := .agg (bytesA (tagR l0 l1))) (results_cell_row (fn := Try.f23) (p := 4) (by rfl) _ _ n4 32 _ (0, 0) _ (by rfl) gv.out Try.underlying32 rfl (by rw [bytes_size, tagR_len]; kernel_rfl)) rfl ⟨rfl, by rw [← HN4.out]; exact gb.out⟩
end Go.Proofs.Ytbakfengmehkkaa.G
