/- The walk of the law ShaBlocks (written by gen_shablocks.py). -/
import Derived.Test.YtbakfengmehkkaaGSummed
import Derived.Test.YtbakfengmehkkaaGRefBlock
import Derived.Deep.RegionHeld3
import Derived.Deep.MidRow
namespace Go.Proofs.Ytbakfengmehkkaa.G
open Go Go.RowKit Go.Proofs.Ytbakfengmehkkaa.PL Go.Proofs.Ytbakfengmehkkaa.Q Go.Proofs.YtbakfengmehkkaaW.PrintWords Go.Proofs.YtbakfengmehkkaaW.PrintLast Go.Proofs.YtbakfengmehkkaaW.PrintMore
/-- Two boxes: eight words and sixteen. -/
structure PB2 (n0 n1 : Nat) (h m : List Int) (w W : World) : Prop where
  h0 : Blk W n0 (wordsA h) 28
  h1 : Blk W n1 (wordsA m) 29
  hb : Below n0 w W
section
variable {n0 n1 : Nat} {h m : List Int} {w W W' : World}
theorem PB2.drew (s : PB2 n0 n1 h m w W) : PB2 n0 n1 h m w W.drew := ⟨s.h0, s.h1, below_drew1 s.hb⟩
theorem PB2.drewN (s : PB2 n0 n1 h m w W) (n : Nat) : PB2 n0 n1 h m w (W.drewN n) := ⟨s.h0, s.h1, pw_below_drewN s.hb n⟩
theorem PB2.below (s : PB2 n0 n1 h m w W) (hb : Below W.heap.size W W') : PB2 n0 n1 h m w W' := ⟨s.h0.below hb s.h0.lt, s.h1.below hb s.h1.lt, s.hb.trans (hb.mono (Nat.le_of_lt s.h0.lt))⟩
end
theorem two_boxes (hl m : List Int) (w : World) : PB2 w.heap.size (w.heap.size + 1) hl m w ((w.alloc (.cells (wordsA hl) 28)).alloc (.cells (wordsA m) 29)) :=
  ⟨(Blk.new w _ _).alloc _, by have := Blk.new (w.alloc (.cells (wordsA hl) 28)) (wordsA m) 29; simpa using this, below_alloc (below_alloc (Below.refl _ _) _) _⟩
theorem range_of {W : World} {b : Nat} {l : List Int} {t : TypeId} (h : Blk W b (wordsA l) t) : W.rangeAt b 0 (l.map (Value.int .u32)) := fun j u hu => by
  rw [Nat.zero_add]; exact h.cell j u (by simpa [wordsA] using hu)
set_option maxRecDepth 100000 in
set_option maxHeartbeats 4000000 in
theorem shaBlocks_any (hl m : List Int) (w : World) (hh : hl.length = 8) (hm : m.length = 16) (wh : IsWords hl) (wm : IsWords m) :
    Calls Try.prog 4 #[.agg (wordsA hl), .agg (wordsA m)] w fun e w' => e = .returned (.bool true) ∧ Below w.heap.size w w' := by
  have sh : (wordsA hl).size = 8 := (words_size hl).trans hh
  have sm : (wordsA m).size = 16 := (words_size m).trans hm
  have oh := words_one hl
  have om := words_one m
  have HBL : Aside0 ((blockR hl m).length = 8) := ⟨block_len hl m hh⟩
  have WH := Aside0.mk wh
  have WM := Aside0.mk wm
  have HH := Aside0.mk hh
  have HM := Aside0.mk hm
  clear wh wm hh hm
  go_enter Try.func4, Try.ntmps4
  go_upto_region 1 with (first | (fail))
  have F := two_boxes hl m w
  obtain ⟨n0, hn0⟩ : ∃ n, n = w.heap.size := ⟨_, rfl⟩
  obtain ⟨n1, hn1⟩ : ∃ n, n = w.heap.size + 1 := ⟨_, rfl⟩
  have HN0 : Aside0 (n0 = w.heap.size) := ⟨hn0⟩
  generalize ((w.alloc (.cells (wordsA hl) 28)).alloc (.cells (wordsA m) 29)) = W0 at *
  rw [← hn1, ← hn0] at F ⊢
  clear hn0 hn1 sh sm oh om
  obtain ⟨R, hR⟩ : ∃ R, R = blockR hl m := ⟨_, rfl⟩
  rw [← hR] at HBL
  have heq := fun d W => eq8 d W R HBL.out
  have HR := Aside0.mk hR
  clear hR
  refine wp_region_held_drew (S := fun W' => PB2 n0 n1 hl m w W') (by kernel_rfl) F.drew (fun S0 => ?_)
  generalize W0.drew = W1 at *
  clear F
  refine wpAnyH_ready (rs := [0]) (by kernel_rfl) (by simp) ?_
  refine AllReadyH.cons rfl (fun K hK => ?_) AllReadyH.nil
  rw [if_pos (by rfl)]
  go_simp
  go_at_call 11
  refine (summed_calls _).mono ?_
  rintro e w5 ⟨rfl, hb5⟩
  replace S0 := S0.below hb5
  clear hb5
  go_wp2_with fail
  refine hK.out _ _ S0 (fun _ => ?_)
  clear hK K
  try simp only [Act.put, List.getElem_toArray, List.getElem_cons_zero, List.getElem_cons_succ, List.setIfInBounds_toArray, List.set_cons_zero, List.set_cons_succ]
  refine wpAnyH_take (i := 1) (v := ?_) rfl (by kernel_rfl) (by kernel_rfl) (by kernel_rfl) (fun _ _ _ h => h) (Or.inl ⟨by rfl, ?_⟩) S0 ?_
  rotate_left
  · intro w hSw; go_simp
    all_goals with_reducible rfl
  try simp only [Act.put, List.getElem_toArray, List.getElem_cons_zero, List.getElem_cons_succ, List.setIfInBounds_toArray, List.set_cons_zero, List.set_cons_succ]
  refine wpAnyH_take (i := 2) rfl (by kernel_rfl) (by kernel_rfl) (by kernel_rfl) (fun _ _ _ h => h) (yieldsIf_load_mid (by rfl) 28 _ rfl n0 0 rfl (hl.map (Value.int .u32)) _ (fun w s => range_of s.h0) Try.underlying28 rfl (by rw [List.length_map, HH.out]; kernel_rfl)) S0 ?_
  try simp only [Act.put, List.getElem_toArray, List.getElem_cons_zero, List.getElem_cons_succ, List.setIfInBounds_toArray, List.set_cons_zero, List.set_cons_succ]
  refine wpAnyH_take (i := 3) rfl (by kernel_rfl) (by kernel_rfl) (by kernel_rfl) (fun _ _ _ h => h) (yieldsIf_load_mid (by rfl) 29 _ rfl n1 0 rfl (m.map (Value.int .u32)) _ (fun w s => range_of s.h1) Try.underlying29 rfl (by rw [List.length_map, HM.out]; kernel_rfl)) S0 ?_
  try simp only [Act.put, List.getElem_toArray, List.getElem_cons_zero, List.getElem_cons_succ, List.setIfInBounds_toArray, List.set_cons_zero, List.set_cons_succ]
  refine wpAnyH_take (i := 5) rfl (by kernel_rfl) (by kernel_rfl) (by kernel_rfl) (fun _ _ _ h => h) (yieldsIf_load_mid (by rfl) 28 _ rfl n0 0 rfl (hl.map (Value.int .u32)) _ (fun w s => range_of s.h0) Try.underlying28 rfl (by rw [List.length_map, HH.out]; kernel_rfl)) S0 ?_
  try simp only [Act.put, List.getElem_toArray, List.getElem_cons_zero, List.getElem_cons_succ, List.setIfInBounds_toArray, List.set_cons_zero, List.set_cons_succ]
  refine wpAnyH_take (i := 6) rfl (by kernel_rfl) (by kernel_rfl) (by kernel_rfl) (fun _ _ _ h => h) (yieldsIf_load_mid (by rfl) 29 _ rfl n1 0 rfl (m.map (Value.int .u32)) _ (fun w s => range_of s.h1) Try.underlying29 rfl (by rw [List.length_map, HM.out]; kernel_rfl)) S0 ?_
  try simp only [Act.put, List.getElem_toArray, List.getElem_cons_zero, List.getElem_cons_succ, List.setIfInBounds_toArray, List.set_cons_zero, List.set_cons_succ]
  refine wpAnyH_ready (rs := [4]) (by kernel_rfl) (by simp) ?_
  refine AllReadyH.cons rfl (fun K hK => ?_) AllReadyH.nil
  rw [if_pos (by rfl)]
  go_simp
  go_at_call 15
  refine (block_any hl m _ HH.out HM.out).mono ?_
  rintro e w5 ⟨rfl, hb5⟩
  rw [← HR.out]
  replace S0 := S0.below hb5
  clear hb5
  go_wp2_with fail
  refine hK.out _ _ S0 (fun _ => ?_)
  clear hK K
  try simp only [Act.put, List.getElem_toArray, List.getElem_cons_zero, List.getElem_cons_succ, List.setIfInBounds_toArray, List.set_cons_zero, List.set_cons_succ]
  refine wpAnyH_ready (rs := [7]) (by kernel_rfl) (by simp) ?_
  refine AllReadyH.cons rfl (fun K hK => ?_) AllReadyH.nil
  rw [if_pos (by rfl)]
  go_simp
  go_at_call 16
  refine (rblock_any hl m _ HH.out HM.out WH.out WM.out).mono ?_
  rintro e w5 ⟨rfl, hb5⟩
  rw [← HR.out]
  replace S0 := S0.below hb5
  clear hb5
  go_wp2_with fail
  refine hK.out _ _ S0 (fun _ => ?_)
  clear hK K
  try simp only [Act.put, List.getElem_toArray, List.getElem_cons_zero, List.getElem_cons_succ, List.setIfInBounds_toArray, List.set_cons_zero, List.set_cons_succ]
  refine wpAnyH_take (i := 8) (v := ?_) rfl (by kernel_rfl) (by kernel_rfl) (by kernel_rfl) (fun _ _ _ h => h) (Or.inl ⟨by rfl, ?_⟩) S0 ?_
  rotate_left
  · intro w hSw; go_simp
    all_goals with_reducible rfl
  try simp only [Act.put, List.getElem_toArray, List.getElem_cons_zero, List.getElem_cons_succ, List.setIfInBounds_toArray, List.set_cons_zero, List.set_cons_succ]
  refine wpAnyH_take (i := 9) (v := ?_) rfl (by kernel_rfl) (by kernel_rfl) (by kernel_rfl) (fun _ _ _ h => h) (Or.inl ⟨by rfl, ?_⟩) S0 ?_
  rotate_left
  · intro w hSw; go_simp
    all_goals with_reducible rfl
  try simp only [Act.put, List.getElem_toArray, List.getElem_cons_zero, List.getElem_cons_succ, List.setIfInBounds_toArray, List.set_cons_zero, List.set_cons_succ]
  refine wpAnyH_take (i := 10) (v := ?_) rfl (by kernel_rfl) (by kernel_rfl) (by kernel_rfl) (fun _ _ _ h => h) (Or.inl ⟨by rfl, ?_⟩) S0 ?_
  rotate_left
  · intro w hSw; go_simp
    all_goals with_reducible rfl
  try simp only [Act.put, List.getElem_toArray, List.getElem_cons_zero, List.getElem_cons_succ, List.setIfInBounds_toArray, List.set_cons_zero, List.set_cons_succ]
  refine wpAnyH_done (by kernel_rfl) ?_ _
  go_wp2
  go_ret
  exact ⟨rfl, by rw [← HN0.out]; exact S0.hb⟩
end Go.Proofs.Ytbakfengmehkkaa.G
