/- The walk of layer 2's example: the digest of abc. -/
import Derived.Test.YtbakfengmehkkaaGEq
import Derived.Lib.SlBytesConst
namespace Go.Proofs.Ytbakfengmehkkaa.G
open Go Go.RowKit Go.Proofs.Ytbakfengmehkkaa.PL Go.Proofs.Ytbakfengmehkkaa.Q Go.Proofs.YtbakfengmehkkaaW.PrintWords Go.Proofs.YtbakfengmehkkaaW.PrintLast Go.Proofs.YtbakfengmehkkaaW.PrintMore
theorem C_of_cells {W : World} {b : Nat} {l : List Int} {t : TypeId} {fr : Nat × Nat} (h : W.heap[b]? = some (.cells (bytesA l) t fr)) (hl : l.length ≤ 1000000) : Kd.C (Kd.int .u8) W (some ⟨b, 0, none⟩) l.length l :=
  Kd.C_of_reads (d := (0 : Int)) (h1 := fun _ => rfl) ⟨rfl, by omega, fun _ => ⟨_, rfl, fun i hi => by rw [add_lit, cell_of_row W b i _ t fr h]; exact bytesA_at l i hi⟩⟩
theorem sum_abc_any (w : World) : Calls Try.prog 17 #[.slice (some ⟨w.heap.size, 0, none⟩) 3 3] (w.alloc (.cells #[.int .u8 97, .int .u8 98, .int .u8 99] 5 (3, 4))) fun e w' => e = .returned (.agg (bytesA abcL)) ∧ Below w.heap.size w w' := by
  have h := sum_any (some ⟨w.heap.size, 0, none⟩) 3 [97, 98, 99] (w.alloc (.cells (bytesA [97, 98, 99]) 5 (3, 4))) (C_of_cells (heap_alloc_new w _) (by decide)) (by decide) (by decide) (by intro x hx; simp at hx; omega)
  rw [sum_abc] at h
  exact h.mono fun e w' ⟨he, hb⟩ => ⟨he, (below_alloc (Below.refl _ _) _).trans (hb.mono (by simp))⟩
theorem pad_nil_any (w : World) : Calls Try.prog 13 #[.slice none 0 0] w fun e w' => ∃ A c, e = .returned (.slice A 64 c) ∧ Below w.heap.size w w' := by
  have h := pad_any none 0 [] w (Kd.C_nil _ _) (Nat.le_refl _) (by simp)
  rw [show (padR []).length = 64 from by decide +kernel] at h
  exact h.mono fun e w' ⟨A, c, he, _, _, _, hb⟩ => ⟨A, c, he, hb⟩
set_option maxRecDepth 100000 in
set_option maxHeartbeats 4000000 in
theorem summed_calls (w : World) : Calls Try.prog 11 #[] w fun e w' => e = .returned (.bool true) ∧ Below w.heap.size w w' := by
  have kc := fun (w : World) (C : Array Value) (n c : Nat) => Lib.run_convert_bytes_const (P := Try.prog) w 22 5 C n c Try.underlying22 Try.underlying5
  have heq := fun d W => eq32 d W abcL rfl
  go_enter Try.func11, Try.ntmps11
  go_wp2_with (first
    | (refine wpList_build_as rfl 32 _ rfl (bytesA abcL) (by as_aux_lemma => kernel_rfl) ?_)
    | (go_at_call 17; refine (sum_abc_any w).mono ?_; rintro e w1 ⟨rfl, hb1⟩; have HB := Aside0.mk hb1; clear hb1)
    | (go_at_call 13; refine (pad_nil_any _).mono ?_; rintro e w2 ⟨A, c, rfl, hb2⟩; have HB2 := Aside0.mk (below_step HB.out hb2); clear hb2))
  go_ret
  exact ⟨rfl, HB2.out⟩
end Go.Proofs.Ytbakfengmehkkaa.G
