/- What the functions that this claim reaches do and answer: printed words and walks, walks by hand and plain laws, packed together, each with its own remark; printed rows are by the kit's print program, turned by this session. Conditions: those that each theorem states. -/
import Derived.Test.YtekgienbhpknlaaKA4
import Derived.Test.YtekgienbhpknlaaKFs8
section
set_option linter.unusedVariables false
namespace Go.Proofs.Ytekgienbhpknlaa.G
open Go Go.RowKit Go.Proofs.YtekgienbhpknlaaW.PrintWords Go.Proofs.YtekgienbhpknlaaW.PrintLast Go.Proofs.YtekgienbhpknlaaW.PrintMore Go.Proofs.Ytekgienbhpknlaa.PL Go.Proofs.Ytekgienbhpknlaa.Q Go.Proofs.Ytekgienbhpknlaa.Pure
theorem fput_A (v0 v1 v2 v3 v4 v5 v6 v7 v8 v9 v10 v11 v12 v13 v14 : Int) (w : World) :
    Calls Try.prog 28 #[.agg (intsA [v0, v1, v2, v3, v4, v5, v6, v7, v8, v9, v10, v11, v12, v13, v14])] w fun x w' => ∃ A c, x = .returned (.tuple #[.slice A (fputR v0 v1 v2 v3 v4 v5 v6 v7 v8 v9 v10 v11 v12 v13 v14).1.length c, .int .i64 (fputR v0 v1 v2 v3 v4 v5 v6 v7 v8 v9 v10 v11 v12 v13 v14).2]) ∧ (fputR v0 v1 v2 v3 v4 v5 v6 v7 v8 v9 v10 v11 v12 v13 v14).1.length ≤ c ∧ Kd.C k40 w' A (fputR v0 v1 v2 v3 v4 v5 v6 v7 v8 v9 v10 v11 v12 v13 v14).1.length (fputR v0 v1 v2 v3 v4 v5 v6 v7 v8 v9 v10 v11 v12 v13 v14).1 ∧ Below w.heap.size w w' := by
  refine (fput_calls v0 v1 v2 v3 v4 v5 v6 v7 v8 v9 v10 v11 v12 v13 v14 _ _ w rfl).mono ?_
  rintro e w' ⟨v, rfl, hN, hb⟩
  obtain ⟨A, c, rfl, hc, hC⟩ := Kd.N_reads hN
  exact ⟨A, c, rfl, hc, hC, hb⟩
theorem rput_A (v0 v1 v2 v3 v4 v5 v6 v7 v8 v9 v10 v11 v12 v13 v14 : Int) (w : World) :
    Calls Try.prog 29 #[.agg (intsA [v0, v1, v2, v3, v4, v5, v6, v7, v8, v9, v10, v11, v12, v13, v14])] w fun x w' => ∃ A c, x = .returned (.tuple #[.slice A (fputR v0 v1 v2 v3 v4 v5 v6 v7 v8 v9 v10 v11 v12 v13 v14).1.length c, .int .i64 (fputR v0 v1 v2 v3 v4 v5 v6 v7 v8 v9 v10 v11 v12 v13 v14).2]) ∧ (fputR v0 v1 v2 v3 v4 v5 v6 v7 v8 v9 v10 v11 v12 v13 v14).1.length ≤ c ∧ Kd.C k40 w' A (fputR v0 v1 v2 v3 v4 v5 v6 v7 v8 v9 v10 v11 v12 v13 v14).1.length (fputR v0 v1 v2 v3 v4 v5 v6 v7 v8 v9 v10 v11 v12 v13 v14).1 ∧ Below w.heap.size w w' := by
  obtain ⟨K, h⟩ := rput_ev v0 v1 v2 v3 v4 v5 v6 v7 v8 v9 v10 v11 v12 v13 v14
  refine (gatelineref18_Put.calls K v0 v1 v2 v3 v4 v5 v6 v7 v8 v9 v10 v11 v12 v13 v14 _ _ w (h K (Nat.le_refl _))).mono ?_
  rintro e w' ⟨v, rfl, hN, hb⟩
  obtain ⟨A, c, rfl, hc, hC⟩ := Kd.S_reads hN
  exact ⟨A, c, rfl, hc, hC, hb⟩
set_option maxRecDepth 100000 in
set_option maxHeartbeats 4000000 in
theorem fieldsPut_any (v0 v1 v2 v3 v4 v5 v6 v7 v8 v9 v10 v11 v12 v13 v14 tag : Int) (w : World) : Calls Try.prog 9 #[.agg #[.int .i64 v0, .int .i64 v1, .int .i64 v2, .int .i64 v3, .int .i64 v4, .int .i64 v5, .int .i64 v6, .int .i64 v7, .int .i64 v8, .int .i64 v9, .int .i64 v10, .int .i64 v11, .int .i64 v12, .int .i64 v13, .int .i64 v14], .int .i64 tag] w fun e w' => e = .returned (.bool true) ∧ Below w.heap.size w w' := by
  obtain ⟨⟨nv, nb⟩, hn1, hn2⟩ := name_same 0 tag
  obtain ⟨KS, hKS⟩ := same_put v0 v1 v2 v3 v4 v5 v6 v7 v8 v9 v10 v11 v12 v13 v14 (fputR v0 v1 v2 v3 v4 v5 v6 v7 v8 v9 v10 v11 v12 v13 v14).1
  have HS : Aside0 (gatelineref17_Same.f KS (fputR v0 v1 v2 v3 v4 v5 v6 v7 v8 v9 v10 v11 v12 v13 v14).1 (fputR v0 v1 v2 v3 v4 v5 v6 v7 v8 v9 v10 v11 v12 v13 v14).1 = some true) := ⟨by have := hKS KS (Nat.le_refl _); simpa using this⟩
  have HN1 := Aside0.mk hn1
  have HN2 := Aside0.mk hn2
  clear hn1 hn2 hKS
  go_enter Try.func9, Try.ntmps9
  go_upto_region 1 with (first | fail)
  have g2 : Blk (w.alloc (.cells #[.int .i64 v0, .int .i64 v1, .int .i64 v2, .int .i64 v3, .int .i64 v4, .int .i64 v5, .int .i64 v6, .int .i64 v7, .int .i64 v8, .int .i64 v9, .int .i64 v10, .int .i64 v11, .int .i64 v12, .int .i64 v13, .int .i64 v14] 46)) w.heap.size (intsA [v0, v1, v2, v3, v4, v5, v6, v7, v8, v9, v10, v11, v12, v13, v14]) 46 := Blk.new w #[.int .i64 v0, .int .i64 v1, .int .i64 v2, .int .i64 v3, .int .i64 v4, .int .i64 v5, .int .i64 v6, .int .i64 v7, .int .i64 v8, .int .i64 v9, .int .i64 v10, .int .i64 v11, .int .i64 v12, .int .i64 v13, .int .i64 v14] 46
  have gb := below_alloc (Below.refl w.heap.size w) (.cells #[.int .i64 v0, .int .i64 v1, .int .i64 v2, .int .i64 v3, .int .i64 v4, .int .i64 v5, .int .i64 v6, .int .i64 v7, .int .i64 v8, .int .i64 v9, .int .i64 v10, .int .i64 v11, .int .i64 v12, .int .i64 v13, .int .i64 v14] 46)
  obtain ⟨n2, hn2⟩ : ∃ n, n = w.heap.size := ⟨_, rfl⟩
  have HN0 := Aside0.mk hn2
  generalize w.alloc (.cells #[.int .i64 v0, .int .i64 v1, .int .i64 v2, .int .i64 v3, .int .i64 v4, .int .i64 v5, .int .i64 v6, .int .i64 v7, .int .i64 v8, .int .i64 v9, .int .i64 v10, .int .i64 v11, .int .i64 v12, .int .i64 v13, .int .i64 v14] 46) = U0 at *
  rw [← hn2] at g2 gb
  try rw [← hn2]
  clear hn2
  have G2 := Aside0.mk g2
  have GB := Aside0.mk gb
  clear g2 gb
  obtain ⟨L, hL⟩ : ∃ L, L = (fputR v0 v1 v2 v3 v4 v5 v6 v7 v8 v9 v10 v11 v12 v13 v14).1 := ⟨_, rfl⟩
  obtain ⟨E, hE⟩ : ∃ E, E = (fputR v0 v1 v2 v3 v4 v5 v6 v7 v8 v9 v10 v11 v12 v13 v14).2 := ⟨_, rfl⟩
  rw [← hL] at HS
  have fA := fput_A v0 v1 v2 v3 v4 v5 v6 v7 v8 v9 v10 v11 v12 v13 v14
  have rA := rput_A v0 v1 v2 v3 v4 v5 v6 v7 v8 v9 v10 v11 v12 v13 v14
  rw [← hL, ← hE] at fA rA
  have FA := Aside0.mk fA
  have RA := Aside0.mk rA
  clear hL hE fA rA
  go_upto_region 2 with (first
    | (refine wpList_load_str rfl 46 (.tmp 2) rfl n2 rfl 46 (intsA [v0, v1, v2, v3, v4, v5, v6, v7, v8, v9, v10, v11, v12, v13, v14]) _ G2.out Try.underlying46 (by kernel_rfl) ?_)
    | (go_at_call 28; refine (FA.out U0).mono ?_; rintro e w1 ⟨A1, c1, rfl, hc1, hC1, hb⟩; have P2 := Aside0.mk (G2.out.below hb G2.out.lt); have PB := Aside0.mk (GB.out.trans (hb.mono (Nat.le_of_lt G2.out.lt))); have C1 := Aside0.mk hC1; have L1 := Aside0.mk hc1; clear hc1 hC1 hb G2 GB))
  go_wp2_with (first
    | (refine wpList_load_str rfl 46 (.tmp 2) rfl n2 rfl 46 (intsA [v0, v1, v2, v3, v4, v5, v6, v7, v8, v9, v10, v11, v12, v13, v14]) _ P2.out Try.underlying46 (by kernel_rfl) ?_)
    | (go_at_call 29; refine (RA.out w1).mono ?_; rintro e w2 ⟨A2, c2, rfl, hc2, hC2, hb⟩; have QB := Aside0.mk (PB.out.trans (hb.mono (Nat.le_of_lt P2.out.lt))); have D1 := Aside0.mk (Kd.C_below C1.out hb); have C2 := Aside0.mk hC2; have L2 := Aside0.mk hc2; clear hc2 hC2 hb P2 PB C1)
    | (go_at_call 30; refine (fields_Name.calls 1 tag nv nb _ HN1.out).mono ?_; rintro e w3 ⟨rfl, nd, rfl⟩; have QB3 := Aside0.mk (pw_below_drewN QB.out nd); have D3 := Aside0.mk (Kd.C_drewN D1.out nd); have C3 := Aside0.mk (Kd.C_drewN C2.out nd); clear QB D1 C2; generalize w2.drewN nd = w3 at *)
    | (go_at_call 31; refine (gatelineref18_Name.calls 1 tag nv nb _ HN2.out).mono ?_; rintro e w4 ⟨rfl, nd2, rfl⟩; have QB4 := Aside0.mk (pw_below_drewN QB3.out nd2); have D4 := Aside0.mk (Kd.C_drewN D3.out nd2); have C4 := Aside0.mk (Kd.C_drewN C3.out nd2); clear QB3 D3 C3; generalize w3.drewN nd2 = w4 at *)
    | (go_at_call 32; refine (told_calls _).mono ?_; rintro e w5 ⟨rfl, hb⟩; have RB_ := Aside0.mk (QB4.out.trans (hb.mono (by rw [HN0.out]; exact QB4.out.size))); have E1 := Aside0.mk (Kd.C_below D4.out hb); have E2 := Aside0.mk (Kd.C_below C4.out hb); clear QB4 D4 C4; clear hb)
    | (go_at_call 23; refine (gatelineref17_Same.calls KS A1 c1 L A2 c2 L true _ E1.out L1.out E2.out L2.out HS.out).mono ?_; rintro e w6 ⟨rfl, nd3, rfl⟩))
  go_ret
  exact ⟨by simp, by rw [← HN0.out]; exact pw_below_drewN RB_.out nd3⟩
end Go.Proofs.Ytekgienbhpknlaa.G
namespace Go.Proofs.Ytekgienbhpknlaa.Pure
open Go Go.RowKit
def Always (r : Bool) : Prop := r = true
theorem FieldsPut (v0 v1 v2 v3 v4 v5 v6 v7 v8 v9 v10 v11 v12 v13 v14 : Int) (_ : (Lit.int .i64 v0).wf = true) (_ : (Lit.int .i64 v1).wf = true) (_ : (Lit.int .i64 v2).wf = true) (_ : (Lit.int .i64 v3).wf = true) (_ : (Lit.int .i64 v4).wf = true) (_ : (Lit.int .i64 v5).wf = true) (_ : (Lit.int .i64 v6).wf = true) (_ : (Lit.int .i64 v7).wf = true) (_ : (Lit.int .i64 v8).wf = true) (_ : (Lit.int .i64 v9).wf = true) (_ : (Lit.int .i64 v10).wf = true) (_ : (Lit.int .i64 v11).wf = true) (_ : (Lit.int .i64 v12).wf = true) (_ : (Lit.int .i64 v13).wf = true) (_ : (Lit.int .i64 v14).wf = true) (tag : Int) (_ : (Lit.int .i64 tag).wf = true) : ∃ _k : Nat, Always true := ⟨0, rfl⟩
theorem FieldsPut_walk (_k : Nat) (v0 v1 v2 v3 v4 v5 v6 v7 v8 v9 v10 v11 v12 v13 v14 tag : Int) (r : Bool) (w : World) (h : Always r) : Calls Try.prog 9 #[.agg #[.int .i64 v0, .int .i64 v1, .int .i64 v2, .int .i64 v3, .int .i64 v4, .int .i64 v5, .int .i64 v6, .int .i64 v7, .int .i64 v8, .int .i64 v9, .int .i64 v10, .int .i64 v11, .int .i64 v12, .int .i64 v13, .int .i64 v14], .int .i64 tag] w fun e w' => e = .returned (.bool r) ∧ Below w.heap.size w w' := by
  unfold Always at h
  subst h
  exact G.fieldsPut_any v0 v1 v2 v3 v4 v5 v6 v7 v8 v9 v10 v11 v12 v13 v14 tag w
end Go.Proofs.Ytekgienbhpknlaa.Pure
end
