/- The walks of slices.Clone over bytes, and of sha.constant. -/
import Derived.Test.YtbakfengmehkkaaGArr
namespace Go.Proofs.Ytbakfengmehkkaa.G
open Go Go.RowKit Go.Proofs.YtbakfengmehkkaaW.PrintWords Go.Proofs.YtbakfengmehkkaaW.PrintLast Go.Proofs.YtbakfengmehkkaaW.PrintMore
set_option maxRecDepth 100000 in
set_option maxHeartbeats 4000000 in
theorem constant_any (t : Int) (w : World) (h0 : 0 ≤ t) (h1 : t < 64) : Calls Try.prog 29 #[.int .i64 t] w fun e w' => e = .returned (.int .u32 (kL.getD t.toNat 0)) ∧ Below w.heap.size w w' := by
  have hl : t.toNat < kL.length := by show t.toNat < 64; omega
  have hat := wordsA_at kL t.toNat hl
  generalize kL.getD t.toNat 0 = r at *
  have HA := Aside0.mk hat
  have HK := Aside0.mk (Below.refl w.heap.size w)
  clear hat hl
  go_enter Try.func29, Try.ntmps29
  go_wp2_with (first
    | (refine wpList_build_as rfl 46 _ rfl (wordsA kL) (by as_aux_lemma => kernel_rfl) ?_)
    | (refine wpList_store_blk rfl 46 _ _ rfl w.heap.size (wordsA kL) rfl rfl 46 _ (Blk.new w _ _) (by as_aux_lemma => kernel_rfl) rfl (by as_aux_lemma => kernel_rfl) ?_
       intro W1 hB hg
       have hc := hB.cell _ _ HA.out
       have HL := Aside0.mk (below_grown (below_alloc HK.out _) hg (Nat.le_refl _) (by simp))
       clear hB hg))
  go_ret
  exact ⟨rfl, HL.out⟩
end Go.Proofs.Ytbakfengmehkkaa.G
