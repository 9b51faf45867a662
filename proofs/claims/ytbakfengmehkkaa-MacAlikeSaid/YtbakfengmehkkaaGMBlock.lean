/- The walk of mac.Block (written by gen_mblock.py). -/
import Derived.Test.YtbakfengmehkkaaGMacPure
namespace Go.Proofs.Ytbakfengmehkkaa.G
open Go Go.RowKit Go.Proofs.Ytbakfengmehkkaa.PL Go.Proofs.Ytbakfengmehkkaa.Q Go.Proofs.YtbakfengmehkkaaW.PrintWords Go.Proofs.YtbakfengmehkkaaW.PrintLast Go.Proofs.YtbakfengmehkkaaW.PrintMore
/-- Two boxes of sixty-four bytes: the answer's and the work's. -/
structure MB (n2 n3 : Nat) (x y : List Int) (w W : World) : Prop where
  h2 : Blk W n2 (bytesA x) 41
  h3 : Blk W n3 (bytesA y) 41
  hb : Below n2 w W
  lt : n2 < n3
section
variable {n2 n3 : Nat} {x y : List Int} {w W W' : World}
theorem MB.drew (s : MB n2 n3 x y w W) : MB n2 n3 x y w W.drew := ⟨s.h2, s.h3, below_drew1 s.hb, s.lt⟩
theorem MB.below (s : MB n2 n3 x y w W) (hb : Below W.heap.size W W') : MB n2 n3 x y w W' := ⟨s.h2.below hb s.h2.lt, s.h3.below hb s.h3.lt, s.hb.trans (hb.mono (Nat.le_of_lt s.h2.lt)), s.lt⟩
theorem MB.alloc (s : MB n2 n3 x y w W) (o : Obj) : MB n2 n3 x y w (W.alloc o) := s.below (below_alloc (Below.refl _ _) o)
theorem MB.grown {g : Nat} (s : MB n2 n3 x y w W) (hg : W.grownBy W' (some g)) (hn : n3 < g) : MB n2 n3 x y w W' := ⟨s.h2.grown hg (by have := s.lt; omega), s.h3.grown hg (by omega), below_grown s.hb hg (by have := s.lt; omega) (Nat.le_of_lt s.h2.lt), s.lt⟩
end
theorem blk_new1 (w : World) (o : Obj) (cs : Array Value) (t : TypeId) : Blk ((w.alloc o).alloc (.cells cs t)) (w.heap.size + 1) cs t := by have := Blk.new (w.alloc o) cs t; simpa using this
theorem two64 (w : World) : MB w.heap.size (w.heap.size + 1) (List.replicate 64 0) (List.replicate 64 0) w ((w.alloc (.cells #[.int .u8 0, .int .u8 0, .int .u8 0, .int .u8 0, .int .u8 0, .int .u8 0, .int .u8 0, .int .u8 0, .int .u8 0, .int .u8 0, .int .u8 0, .int .u8 0, .int .u8 0, .int .u8 0, .int .u8 0, .int .u8 0, .int .u8 0, .int .u8 0, .int .u8 0, .int .u8 0, .int .u8 0, .int .u8 0, .int .u8 0, .int .u8 0, .int .u8 0, .int .u8 0, .int .u8 0, .int .u8 0, .int .u8 0, .int .u8 0, .int .u8 0, .int .u8 0, .int .u8 0, .int .u8 0, .int .u8 0, .int .u8 0, .int .u8 0, .int .u8 0, .int .u8 0, .int .u8 0, .int .u8 0, .int .u8 0, .int .u8 0, .int .u8 0, .int .u8 0, .int .u8 0, .int .u8 0, .int .u8 0, .int .u8 0, .int .u8 0, .int .u8 0, .int .u8 0, .int .u8 0, .int .u8 0, .int .u8 0, .int .u8 0, .int .u8 0, .int .u8 0, .int .u8 0, .int .u8 0, .int .u8 0, .int .u8 0, .int .u8 0, .int .u8 0] 41)).alloc (.cells #[.int .u8 0, .int .u8 0, .int .u8 0, .int .u8 0, .int .u8 0, .int .u8 0, .int .u8 0, .int .u8 0, .int .u8 0, .int .u8 0, .int .u8 0, .int .u8 0, .int .u8 0, .int .u8 0, .int .u8 0, .int .u8 0, .int .u8 0, .int .u8 0, .int .u8 0, .int .u8 0, .int .u8 0, .int .u8 0, .int .u8 0, .int .u8 0, .int .u8 0, .int .u8 0, .int .u8 0, .int .u8 0, .int .u8 0, .int .u8 0, .int .u8 0, .int .u8 0, .int .u8 0, .int .u8 0, .int .u8 0, .int .u8 0, .int .u8 0, .int .u8 0, .int .u8 0, .int .u8 0, .int .u8 0, .int .u8 0, .int .u8 0, .int .u8 0, .int .u8 0, .int .u8 0, .int .u8 0, .int .u8 0, .int .u8 0, .int .u8 0, .int .u8 0, .int .u8 0, .int .u8 0, .int .u8 0, .int .u8 0, .int .u8 0, .int .u8 0, .int .u8 0, .int .u8 0, .int .u8 0, .int .u8 0, .int .u8 0, .int .u8 0, .int .u8 0] 41)) :=
  ⟨(Blk.new w #[.int .u8 0, .int .u8 0, .int .u8 0, .int .u8 0, .int .u8 0, .int .u8 0, .int .u8 0, .int .u8 0, .int .u8 0, .int .u8 0, .int .u8 0, .int .u8 0, .int .u8 0, .int .u8 0, .int .u8 0, .int .u8 0, .int .u8 0, .int .u8 0, .int .u8 0, .int .u8 0, .int .u8 0, .int .u8 0, .int .u8 0, .int .u8 0, .int .u8 0, .int .u8 0, .int .u8 0, .int .u8 0, .int .u8 0, .int .u8 0, .int .u8 0, .int .u8 0, .int .u8 0, .int .u8 0, .int .u8 0, .int .u8 0, .int .u8 0, .int .u8 0, .int .u8 0, .int .u8 0, .int .u8 0, .int .u8 0, .int .u8 0, .int .u8 0, .int .u8 0, .int .u8 0, .int .u8 0, .int .u8 0, .int .u8 0, .int .u8 0, .int .u8 0, .int .u8 0, .int .u8 0, .int .u8 0, .int .u8 0, .int .u8 0, .int .u8 0, .int .u8 0, .int .u8 0, .int .u8 0, .int .u8 0, .int .u8 0, .int .u8 0, .int .u8 0] 41).alloc _, blk_new1 w _ #[.int .u8 0, .int .u8 0, .int .u8 0, .int .u8 0, .int .u8 0, .int .u8 0, .int .u8 0, .int .u8 0, .int .u8 0, .int .u8 0, .int .u8 0, .int .u8 0, .int .u8 0, .int .u8 0, .int .u8 0, .int .u8 0, .int .u8 0, .int .u8 0, .int .u8 0, .int .u8 0, .int .u8 0, .int .u8 0, .int .u8 0, .int .u8 0, .int .u8 0, .int .u8 0, .int .u8 0, .int .u8 0, .int .u8 0, .int .u8 0, .int .u8 0, .int .u8 0, .int .u8 0, .int .u8 0, .int .u8 0, .int .u8 0, .int .u8 0, .int .u8 0, .int .u8 0, .int .u8 0, .int .u8 0, .int .u8 0, .int .u8 0, .int .u8 0, .int .u8 0, .int .u8 0, .int .u8 0, .int .u8 0, .int .u8 0, .int .u8 0, .int .u8 0, .int .u8 0, .int .u8 0, .int .u8 0, .int .u8 0, .int .u8 0, .int .u8 0, .int .u8 0, .int .u8 0, .int .u8 0, .int .u8 0, .int .u8 0, .int .u8 0, .int .u8 0] 41, below_alloc (below_alloc (Below.refl _ _) _) _, by omega⟩
theorem list_blk {W : World} {b : Nat} {L : List Value} {t : TypeId} {l : List Int} (h : W.heap[b]? = some (.cells L.toArray t (0, 0))) (e : L = (bytesA l).toList) : Blk W b (bytesA l) t := by
  subst e
  show W.heap[b]? = _
  simpa using h
set_option maxRecDepth 100000 in
set_option maxHeartbeats 4000000 in
theorem mblock_any (A0 : Option Addr) (c0 : Nat) (l0 : List Int) (w : World) (hr : Kd.C (Kd.int .u8) w A0 l0.length l0) (hc : l0.length ≤ c0) (hl : l0.length ≤ 140737488351232) (hb : IsBytes l0) :
    Calls Try.prog 25 #[.slice A0 l0.length c0] w fun e w' => e = .returned (.agg (bytesA (blkL l0))) ∧ Below w.heap.size w w' := by
  have HR := Aside0.mk hr
  have HC := Aside0.mk hc
  have HL := Aside0.mk hl
  have HBY := Aside0.mk hb
  clear hr hc hl hb
  go_enter Try.func25, Try.ntmps25
  go_upto_region 2 with (first | (fail))
  have hz := two64 w
  obtain ⟨n2, hn2⟩ : ∃ n, n = w.heap.size := ⟨_, rfl⟩
  obtain ⟨n3, hn3⟩ : ∃ n, n = w.heap.size + 1 := ⟨_, rfl⟩
  have HN2 := Aside0.mk hn2
  generalize (w.alloc (.cells #[.int .u8 0, .int .u8 0, .int .u8 0, .int .u8 0, .int .u8 0, .int .u8 0, .int .u8 0, .int .u8 0, .int .u8 0, .int .u8 0, .int .u8 0, .int .u8 0, .int .u8 0, .int .u8 0, .int .u8 0, .int .u8 0, .int .u8 0, .int .u8 0, .int .u8 0, .int .u8 0, .int .u8 0, .int .u8 0, .int .u8 0, .int .u8 0, .int .u8 0, .int .u8 0, .int .u8 0, .int .u8 0, .int .u8 0, .int .u8 0, .int .u8 0, .int .u8 0, .int .u8 0, .int .u8 0, .int .u8 0, .int .u8 0, .int .u8 0, .int .u8 0, .int .u8 0, .int .u8 0, .int .u8 0, .int .u8 0, .int .u8 0, .int .u8 0, .int .u8 0, .int .u8 0, .int .u8 0, .int .u8 0, .int .u8 0, .int .u8 0, .int .u8 0, .int .u8 0, .int .u8 0, .int .u8 0, .int .u8 0, .int .u8 0, .int .u8 0, .int .u8 0, .int .u8 0, .int .u8 0, .int .u8 0, .int .u8 0, .int .u8 0, .int .u8 0] 41)).alloc (.cells #[.int .u8 0, .int .u8 0, .int .u8 0, .int .u8 0, .int .u8 0, .int .u8 0, .int .u8 0, .int .u8 0, .int .u8 0, .int .u8 0, .int .u8 0, .int .u8 0, .int .u8 0, .int .u8 0, .int .u8 0, .int .u8 0, .int .u8 0, .int .u8 0, .int .u8 0, .int .u8 0, .int .u8 0, .int .u8 0, .int .u8 0, .int .u8 0, .int .u8 0, .int .u8 0, .int .u8 0, .int .u8 0, .int .u8 0, .int .u8 0, .int .u8 0, .int .u8 0, .int .u8 0, .int .u8 0, .int .u8 0, .int .u8 0, .int .u8 0, .int .u8 0, .int .u8 0, .int .u8 0, .int .u8 0, .int .u8 0, .int .u8 0, .int .u8 0, .int .u8 0, .int .u8 0, .int .u8 0, .int .u8 0, .int .u8 0, .int .u8 0, .int .u8 0, .int .u8 0, .int .u8 0, .int .u8 0, .int .u8 0, .int .u8 0, .int .u8 0, .int .u8 0, .int .u8 0, .int .u8 0, .int .u8 0, .int .u8 0, .int .u8 0, .int .u8 0] 41) = U0 at *
  rw [← hn3, ← hn2] at hz
  try rw [← hn3, ← hn2]
  clear hn2 hn3
  have SZ := Aside0.mk hz
  clear hz
  by_cases h64 : 64 < l0.length
  · have hi : (l0.length : Int) > 64 := by omega
    have HS : Aside0 (secR l0 = sumR l0) := ⟨secR_long h64⟩
    clear h64
    go_wp2_with (first
      | (go_at_call 17; refine (sum_any A0 c0 l0 _ (C_low HR.out (by rw [← HN2.out]; exact SZ.out.hb)) HC.out HL.out HBY.out).mono ?_; rintro e w5 ⟨rfl, hb5⟩; have SY := Aside0.mk (SZ.out.below hb5); clear hb5 SZ)
      | (refine wpList_store_blk rfl 32 (.tmp 4) (.tmp 9) rfl w5.heap.size (bytesA (sumR l0)) rfl rfl 32 _ (Blk.new w5 _ _) (by rw [bytes_size, sumR_len]; kernel_rfl) (by rw [bytes_size, sumR_len]; try rfl) (bytes_one _) ?_; intro w6 hv6 hg6; have SX := Aside0.mk ((SY.out.alloc _).grown hg6 SY.out.h3.lt); have K6 := Aside0.mk hv6; clear hv6 hg6 SY)
      | (refine wpList_copy_splice rfl (.tmp 11) (.tmp 12) 22 22 rfl 5 Try.underlying22 (by kernel_rfl) (some ⟨n3, 0, none⟩) (some ⟨w5.heap.size, 0, none⟩) 64 64 32 32 rfl rfl n3 0 (bytesA (List.replicate 64 0)).toList 41 SX.out.h3 ((secR l0).map (Value.int .u8)) (by rw [List.length_map, HS.out, sumR_len]; rfl) (fun hp => ⟨rfl, src_of_C (n := 32) (by rw [HS.out]; have h := C_of_blk8 K6.out (by rw [sumR_len]; decide); rw [sumR_len] at h; exact h) hp⟩) (by rw [List.length_map]; have := secR_le l0; simp [bytesA]; omega) (bytes_list_one _) n3 w6 (Below.refl _ _) (Nat.le_refl _) ?_; intro w7 hv7 hb7; have S7 := Aside0.mk (list_blk (l := blkL l0) hv7 (splice_zeros _ (secR_le l0))); have T7 := Aside0.mk hb7; clear hv7 hb7)
      | (refine wpList_load_blk rfl 41 (.tmp 3) rfl n3 rfl 41 (bytesA (blkL l0)) 64 5 S7.out Try.underlying41 (by rw [bytes_size, blkL_len]; kernel_rfl) ?_)
      | (refine wpList_store_blk rfl 41 (.tmp 2) (.tmp 14) rfl n2 (bytesA (blkL l0)) rfl rfl 41 _ (SX.out.h2.below T7.out SX.out.lt) (by rw [bytes_size, blkL_len]; kernel_rfl) (by rw [bytes_size, bytes_size, blkL_len]; rfl) (bytes_one _) ?_; intro w9 hv9 hg9; have gv := Aside0.mk hv9; have gb := Aside0.mk (below_grown (SX.out.hb.trans (T7.out.mono (Nat.le_of_lt SX.out.lt))) hg9 (Nat.le_refl _) (Nat.le_of_lt (SX.out.h2.below T7.out SX.out.lt).lt)); clear hv9 hg9))
    refine bodyPost_ret (v := .agg (bytesA (blkL l0))) (results_cell_row (fn := Try.f25) (p := 2) (by rfl) _ _ n2 41 _ (0, 0) _ (by rfl) gv.out Try.underlying41 rfl (by rw [bytes_size, blkL_len]; kernel_rfl)) rfl ⟨rfl, by rw [← HN2.out]; exact gb.out⟩
  · have hi : ¬ (l0.length : Int) > 64 := by omega
    have HS : Aside0 (secR l0 = l0) := ⟨secR_short h64⟩
    have H64 := Aside0.mk h64
    clear h64
    go_wp2_with (first
      | (refine wpList_copy_splice rfl (.tmp 11) (.tmp 12) 22 22 rfl 5 Try.underlying22 (by kernel_rfl) (some ⟨n3, 0, none⟩) A0 64 64 l0.length c0 rfl rfl n3 0 (bytesA (List.replicate 64 0)).toList 41 SZ.out.h3 ((secR l0).map (Value.int .u8)) (by rw [List.length_map, HS.out]; have := H64.out; exact (Nat.min_eq_left (by omega)).symm) (fun hp => ⟨rfl, src_of_C (n := l0.length) (by rw [HS.out]; exact C_low HR.out (by rw [← HN2.out]; exact SZ.out.hb)) hp⟩) (by rw [List.length_map]; have := secR_le l0; simp [bytesA]; omega) (bytes_list_one _) n3 U0 (Below.refl _ _) (Nat.le_refl _) ?_; intro w7 hv7 hb7; have S7 := Aside0.mk (list_blk (l := blkL l0) hv7 (splice_zeros _ (secR_le l0))); have T7 := Aside0.mk hb7; clear hv7 hb7)
      | (refine wpList_load_blk rfl 41 (.tmp 3) rfl n3 rfl 41 (bytesA (blkL l0)) 64 5 S7.out Try.underlying41 (by rw [bytes_size, blkL_len]; kernel_rfl) ?_)
      | (refine wpList_store_blk rfl 41 (.tmp 2) (.tmp 14) rfl n2 (bytesA (blkL l0)) rfl rfl 41 _ (SZ.out.h2.below T7.out SZ.out.lt) (by rw [bytes_size, blkL_len]; kernel_rfl) (by rw [bytes_size, bytes_size, blkL_len]; rfl) (bytes_one _) ?_; intro w9 hv9 hg9; have gv := Aside0.mk hv9; have gb := Aside0.mk (below_grown (SZ.out.hb.trans (T7.out.mono (Nat.le_of_lt SZ.out.lt))) hg9 (Nat.le_refl _) (Nat.le_of_lt (SZ.out.h2.below T7.out SZ.out.lt).lt)); clear hv9 hg9))
    refine bodyPost_ret (v := .agg (bytesA (blkL l0))) (results_cell_row (fn := Try.f25) (p := 2) (by rfl) _ _ n2 41 _ (0, 0) _ (by rfl) gv.out Try.underlying41 rfl (by rw [bytes_size, blkL_len]; kernel_rfl)) rfl ⟨rfl, by rw [← HN2.out]; exact gb.out⟩
end Go.Proofs.Ytbakfengmehkkaa.G
