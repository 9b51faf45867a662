/- The walk of layer 3's example: a tag that is known. -/
import Derived.Test.YtbakfengmehkkaaGMRTag
import Derived.Lib.SlBytesConst
namespace Go.Proofs.Ytbakfengmehkkaa.G
open Go Go.RowKit Go.Proofs.Ytbakfengmehkkaa.PL Go.Proofs.Ytbakfengmehkkaa.Q Go.Proofs.YtbakfengmehkkaaW.PrintWords Go.Proofs.YtbakfengmehkkaaW.PrintLast Go.Proofs.YtbakfengmehkkaaW.PrintMore
def jefe : List Int := [74, 101, 102, 101]
def wantL : List Int := [119, 104, 97, 116, 32, 100, 111, 32, 121, 97, 32, 119, 97, 110, 116, 32, 102, 111, 114, 32, 110, 111, 116, 104, 105, 110, 103, 63]
def knownL : List Int := [91, 220, 193, 70, 191, 96, 117, 78, 106, 4, 36, 38, 8, 149, 117, 199, 90, 0, 63, 8, 157, 39, 57, 131, 157, 236, 88, 185, 100, 236, 56, 67]
theorem tag_known : tagR jefe wantL = knownL := by decide +kernel
theorem jefe_bytes : IsBytes jefe := by unfold IsBytes; decide
theorem want_bytes : IsBytes wantL := by unfold IsBytes; decide
theorem mtag_known (w : World) : Calls Try.prog 23 #[.slice (some ⟨w.heap.size, 0, none⟩) 4 4, .slice (some ⟨w.heap.size + 1, 0, none⟩) 28 28] ((w.alloc (.cells (bytesA jefe) 5 (4, 5))).alloc (.cells (bytesA wantL) 5 (28, 29))) fun e w' => e = .returned (.agg (bytesA knownL)) ∧ Below w.heap.size w w' := by
  have h2 : ((w.alloc (.cells (bytesA jefe) 5 (4, 5))).alloc (.cells (bytesA wantL) 5 (28, 29))).heap[w.heap.size + 1]? = some (.cells (bytesA wantL) 5 (28, 29)) := by
    have := heap_alloc_new (w.alloc (.cells (bytesA jefe) 5 (4, 5))) (.cells (bytesA wantL) 5 (28, 29))
    simpa using this
  have h1 : ((w.alloc (.cells (bytesA jefe) 5 (4, 5))).alloc (.cells (bytesA wantL) 5 (28, 29))).heap[w.heap.size]? = some (.cells (bytesA jefe) 5 (4, 5)) :=
    (Below.heap_alloc _ _ _ (by simp)).trans (heap_alloc_new w _)
  have h := mtag_any (some ⟨w.heap.size, 0, none⟩) 4 jefe (some ⟨w.heap.size + 1, 0, none⟩) 28 wantL _ (C_of_cells h1 (by decide)) (by decide) (by decide) jefe_bytes (C_of_cells h2 (by decide)) (by decide) (by decide) want_bytes
  rw [tag_known] at h
  exact h.mono fun e w' ⟨he, hb⟩ => ⟨he, (below_alloc (below_alloc (Below.refl _ _) _) _).trans (hb.mono (by simp only [World.size_alloc]; omega))⟩
theorem mblock_known (w : World) : Calls Try.prog 25 #[.slice (some ⟨w.heap.size, 0, none⟩) 4 4] (w.alloc (.cells (bytesA jefe) 5 (4, 5))) fun e w' => e = .returned (.agg (bytesA (blkL jefe))) ∧ Below w.heap.size w w' := by
  have h := mblock_any (some ⟨w.heap.size, 0, none⟩) 4 jefe (w.alloc (.cells (bytesA jefe) 5 (4, 5))) (C_of_cells (heap_alloc_new w _) (by decide)) (by decide) (by decide) jefe_bytes
  exact h.mono fun e w' ⟨he, hb⟩ => ⟨he, (below_alloc (Below.refl _ _) _).trans (hb.mono (by simp))⟩
theorem jefe0 : (blkL jefe)[0]? = some 74 := by decide +kernel
theorem jefe63 : (blkL jefe)[63]? = some 0 := by decide +kernel
theorem blk_cell {W : World} {b : Nat} {l : List Int} {t : TypeId} (h : Blk W b (bytesA l) t) (i : Nat) (x : Int) (hx : l[i]? = some x) : W.cell? ⟨b, i, none⟩ = some (.int .u8 x) := h.cell i _ (by simp [bytesA, hx])
set_option maxRecDepth 100000 in
set_option maxHeartbeats 4000000 in
theorem tagged_calls (w : World) : Calls Try.prog 22 #[] w fun e w' => e = .returned (.bool true) ∧ Below w.heap.size w w' := by
  have kc := fun (w : World) (C : Array Value) (n c : Nat) => Lib.run_convert_bytes_const (P := Try.prog) w 22 5 C n c Try.underlying22 Try.underlying5
  have kc2 := fun (w : World) (o : Obj) (C : Array Value) (n c : Nat) => kc (w.alloc o) C n c
  simp only [World.size_alloc] at kc2
  have heq := fun d W => eq32 d W knownL rfl
  go_enter Try.func22, Try.ntmps22
  go_upto_region 2 with (first
    | (go_at_call 23; refine (mtag_known w).mono ?_; rintro e w1 ⟨rfl, hb⟩; have HB := Aside0.mk hb; clear hb)
    | (refine wpList_store_blk rfl 32 (.tmp 1) (.tmp 7) rfl w1.heap.size (bytesA knownL) rfl rfl 32 _ (Blk.new w1 _ _) (by kernel_rfl) (by rfl) (bytes_one _) ?_; intro w2 hv hg; have B1 := Aside0.mk hv; have HB2 := Aside0.mk (below_grown (HB.out.alloc HB.out.size _) hg HB.out.size (by have := HB.out.size; simp only [World.size_alloc]; omega)); clear hv hg HB))
  obtain ⟨n1, hn1⟩ : ∃ n, n = w1.heap.size := ⟨_, rfl⟩
  rw [← hn1] at B1
  try rw [← hn1]
  clear hn1
  go_wp2_with (first
    | (go_at_call 25; refine (mblock_known w2).mono ?_; rintro e w3 ⟨rfl, hb⟩; have B3 := Aside0.mk (B1.out.below hb B1.out.lt); have HB3 := Aside0.mk (HB2.out.trans (hb.mono HB2.out.size)); clear hb HB2 B1)
    | (refine wpList_store_blk rfl 41 (.tmp 2) (.tmp 10) rfl w3.heap.size (bytesA (blkL jefe)) rfl rfl 41 _ (Blk.new w3 _ _) (by rw [bytes_size, blkL_len]; kernel_rfl) (by rw [bytes_size, blkL_len]; try rfl) (bytes_one _) ?_; intro w4 hv hg; have b0 := blk_cell hv 0 74 jefe0; have b63 := blk_cell hv 63 0 jefe63; have B4 := Aside0.mk ((B3.out.alloc _).grown hg (by have := B3.out.lt; omega)); have HB4 := Aside0.mk (below_grown (HB3.out.alloc HB3.out.size _) hg HB3.out.size (by have := HB3.out.size; simp only [World.size_alloc]; omega)); clear hv hg HB3 B3)
    | (refine wpList_load_blk rfl 32 (.tmp 1) rfl n1 rfl 32 (bytesA knownL) 32 5 B4.out Try.underlying32 (by kernel_rfl) ?_)
    | (refine wpList_build_as rfl 32 _ rfl (bytesA knownL) (by as_aux_lemma => kernel_rfl) ?_))
  go_ret
  exact ⟨rfl, HB4.out⟩
end Go.Proofs.Ytbakfengmehkkaa.G
