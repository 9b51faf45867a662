/- What the functions that this claim reaches do and answer: printed words and walks, walks by hand and plain laws, packed together, each with its own remark; printed rows are by the kit's print program, turned by this session. Conditions: those that each theorem states. -/
import Derived.Test.YtdiijjdhofaodaaKRARDRPRS10
section
namespace Go.Proofs.Ytdiijjdhofaodaa.G
open Go Go.RowKit Go.Proofs.YtdiijjdhofaodaaW.PrintWords Go.Proofs.YtdiijjdhofaodaaW.PrintLast Go.Proofs.YtdiijjdhofaodaaW.PrintMore
set_option maxRecDepth 100000 in
set_option maxHeartbeats 4000000 in
theorem pass_enter_ok (y0 y1 y2 y3 y4 y5 y6 y7 y8 y9 y10 l i : Int) (bk : Bool) (x0 x1 x2 x3 x4 x5 x6 x7 x8 x9 x10 day s : Int) (w : World) (a b : Int) (hJ : jisB y0 y1 y2 y3 y4 y5 y6 y7 y8 y9 y10 l i = true) (hL : lisB s = true) (hS : sameR y0 y1 y2 y3 y4 y5 y6 y7 y8 y9 y10 l i bk x0 x1 x2 x3 x4 x5 x6 x7 x8 x9 x10 = (0, 0)) (hD : dayR x0 x1 x2 x3 x4 x5 x6 x7 x8 x9 x10 day false = (0, 0)) (hE : enterR x0 x1 x2 x3 x4 x5 x6 x7 x8 x9 x10 l i s = (a, b, 0, 0)) (hw : -9223372036854775808 ≤ s ∧ s ≤ 9223372036854775807) :
    Calls Try.prog 35 #[.agg #[.int .i64 y0, .int .i64 y1, .int .i64 y2, .int .i64 y3, .int .i64 y4, .int .i64 y5, .int .i64 y6, .int .i64 y7, .int .i64 y8, .int .i64 y9, .int .i64 y10, .int .i64 l, .int .i64 i, .bool bk], .agg #[.int .i64 x0, .int .i64 x1, .int .i64 x2, .int .i64 x3, .int .i64 x4, .int .i64 x5, .int .i64 x6, .int .i64 x7, .int .i64 x8, .int .i64 x9, .int .i64 x10], .int .i64 day, .int .i64 s, .bool false] w fun e w' => e = .returned (.tuple #[.agg #[.int .i64 a, .int .i64 b], .int .i64 0, .int .i64 0]) ∧ Below w.heap.size w w' := by
  go_enter Try.func35, Try.ntmps35
  go_wp2
  go_step3
  go_wp2_with (first
    | (go_at_call 42; refine (lis_e _ _ _ _ _ _ _ _ _ _ _ _ _ _ _).mono ?_; rintro e w1 ⟨rfl, hb⟩; rw [hJ]; have F1 := (Six.first w (enA y0 y1 y2 y3 y4 y5 y6 y7 y8 y9 y10 l i bk) (tkA x0 x1 x2 x3 x4 x5 x6 x7 x8 x9 x10) day s false).below hb; clear hb; obtain ⟨e0, e1, e2, e3, e4, e5, e6, e7, e8, e9, e10, e11, e12, e13⟩ := F1.1.entry; obtain ⟨q0, q1, q2, q3, q4, q5, q6, q7, q8, q9, q10⟩ := F1.2.1.all; have d0 := F1.2.2.1.cell 0 _ rfl; have s0 := F1.2.2.2.1.cell 0 _ rfl; have o0 := F1.2.2.2.2.1.cell 0 _ rfl; have r0 := F1.2.2.2.2.2.1.cell 0 _ rfl; have r1 := F1.2.2.2.2.2.1.cell 1 _ rfl; have g0 := F1.2.2.2.2.2.1.frozen 0; have g1 := F1.2.2.2.2.2.1.frozen 1)
    | (go_at_call 43; refine (lis_any _ _).mono ?_; rintro e w' ⟨rfl, rfl⟩; rw [hL])
    | go_in)
  have F2 := (F1.alloc (.cells #[.int .i64 l, .int .i64 i] 25)).alloc (.cells (fns w.heap.size w1.heap.size) 79)
  have F2J : Blk _ w1.heap.size #[.int .i64 l, .int .i64 i] 25 := (Blk.new w1 _ _).alloc (.cells (fns w.heap.size w1.heap.size) 79)
  have F2S : Blk _ (w1.heap.size + 1) (fns w.heap.size w1.heap.size) 79 := (by simpa using Blk.new (w1.alloc (.cells #[.int .i64 l, .int .i64 i] 25)) (fns w.heap.size w1.heap.size) 79 : Blk ((w1.alloc (.cells #[.int .i64 l, .int .i64 i] 25)).alloc (.cells (fns w.heap.size w1.heap.size) 79)) (w1.heap.size + 1) (fns w.heap.size w1.heap.size) 79)
  have hjb : w.heap.size + 1 + 1 + 1 + 1 + 1 < w1.heap.size := F1.2.2.2.2.2.1.lt
  clear e0 e1 e2 e3 e4 e5 e6 e7 e8 e9 e10 e11 e12 e13 q0 q1 q2 q3 q4 q5 q6 q7 q8 q9 q10 d0 s0 o0 r0 r1 g0 g1
  go_step3
  go_wp2
  generalize hW : (w1.alloc (.cells #[.int .i64 l, .int .i64 i] 25)).alloc (.cells (fns w.heap.size w1.heap.size) 79) = W2 at F2 F2J F2S
  unfold fns at hW
  rw [hW]
  clear hW
  obtain ⟨e0, e1, e2, e3, e4, e5, e6, e7, e8, e9, e10, e11, e12, e13⟩ := F2.1.entry; obtain ⟨q0, q1, q2, q3, q4, q5, q6, q7, q8, q9, q10⟩ := F2.2.1.all; have d0 := F2.2.2.1.cell 0 _ rfl; have s0 := F2.2.2.2.1.cell 0 _ rfl; have o0 := F2.2.2.2.2.1.cell 0 _ rfl; have r0 := F2.2.2.2.2.2.1.cell 0 _ rfl; have r1 := F2.2.2.2.2.2.1.cell 1 _ rfl; have g0 := F2.2.2.2.2.2.1.frozen 0; have g1 := F2.2.2.2.2.2.1.frozen 1; have j0 := F2J.cell 0 _ rfl; have j1 := F2J.cell 1 _ rfl; have h0_ := F2J.frozen 0; have h1_ := F2J.frozen 1; obtain ⟨c0_, c1_, c2_⟩ := fns_cells F2S
  refine wp_loop_rounds 4 ?_
  rw [rounds_succ]
  go_wp2_with (first
    | (go_at_call 38; refine (same_any _ _ _ _ _ _ _ _ _ _ _ _ _ _ _ _ _ _ _ _ _ _ _ _ _ _).mono ?_; rintro e w3 ⟨rfl, hb⟩; rw [hS]; have F3 := F2.below hb; have F3J := F2J.below hb F2J.lt; have F3S := F2S.below hb F2S.lt; clear hb; clear e0 e1 e2 e3 e4 e5 e6 e7 e8 e9 e10 e11 e12 e13 q0 q1 q2 q3 q4 q5 q6 q7 q8 q9 q10 d0 s0 o0 r0 r1 g0 g1; clear j0 j1 h0_ h1_ c0_ c1_ c2_; obtain ⟨e0, e1, e2, e3, e4, e5, e6, e7, e8, e9, e10, e11, e12, e13⟩ := F3.1.entry; obtain ⟨q0, q1, q2, q3, q4, q5, q6, q7, q8, q9, q10⟩ := F3.2.1.all; have d0 := F3.2.2.1.cell 0 _ rfl; have s0 := F3.2.2.2.1.cell 0 _ rfl; have o0 := F3.2.2.2.2.1.cell 0 _ rfl; have r0 := F3.2.2.2.2.2.1.cell 0 _ rfl; have r1 := F3.2.2.2.2.2.1.cell 1 _ rfl; have g0 := F3.2.2.2.2.2.1.frozen 0; have g1 := F3.2.2.2.2.2.1.frozen 1; have j0 := F3J.cell 0 _ rfl; have j1 := F3J.cell 1 _ rfl; have h0_ := F3J.frozen 0; have h1_ := F3J.frozen 1; obtain ⟨c0_, c1_, c2_⟩ := fns_cells F3S)
    | go_in)
  rw [rounds_succ]
  go_wp2_with (first
    | (go_at_call 40; refine (day_any _ _ _ _ _ _ _ _ _ _ _ _ _ _).mono ?_; rintro e w4 ⟨rfl, hb⟩; rw [hD]; have F4 := F3.below hb; have F4J := F3J.below hb F3J.lt; have F4S := F3S.below hb F3S.lt; clear hb; clear e0 e1 e2 e3 e4 e5 e6 e7 e8 e9 e10 e11 e12 e13 q0 q1 q2 q3 q4 q5 q6 q7 q8 q9 q10 d0 s0 o0 r0 r1 g0 g1; clear j0 j1 h0_ h1_ c0_ c1_ c2_; obtain ⟨e0, e1, e2, e3, e4, e5, e6, e7, e8, e9, e10, e11, e12, e13⟩ := F4.1.entry; obtain ⟨q0, q1, q2, q3, q4, q5, q6, q7, q8, q9, q10⟩ := F4.2.1.all; have d0 := F4.2.2.1.cell 0 _ rfl; have s0 := F4.2.2.2.1.cell 0 _ rfl; have o0 := F4.2.2.2.2.1.cell 0 _ rfl; have r0 := F4.2.2.2.2.2.1.cell 0 _ rfl; have r1 := F4.2.2.2.2.2.1.cell 1 _ rfl; have g0 := F4.2.2.2.2.2.1.frozen 0; have g1 := F4.2.2.2.2.2.1.frozen 1; have j0 := F4J.cell 0 _ rfl; have j1 := F4J.cell 1 _ rfl; have h0_ := F4J.frozen 0; have h1_ := F4J.frozen 1; obtain ⟨c0_, c1_, c2_⟩ := fns_cells F4S)
    | go_in)
  rw [rounds_succ]
  go_wp2_with (first
    | (go_at_call 15; refine (enter_any _ _ _ _ _ _ _ _ _ _ _ _ _ _ _ hw).mono ?_; rintro e w5 ⟨rfl, hb⟩; rw [hE]; have F5 := F4.below hb; have F5J := F4J.below hb F4J.lt; have F5S := F4S.below hb F4S.lt; clear hb; clear e0 e1 e2 e3 e4 e5 e6 e7 e8 e9 e10 e11 e12 e13 q0 q1 q2 q3 q4 q5 q6 q7 q8 q9 q10 d0 s0 o0 r0 r1 g0 g1; clear j0 j1 h0_ h1_ c0_ c1_ c2_; obtain ⟨e0, e1, e2, e3, e4, e5, e6, e7, e8, e9, e10, e11, e12, e13⟩ := F5.1.entry; obtain ⟨q0, q1, q2, q3, q4, q5, q6, q7, q8, q9, q10⟩ := F5.2.1.all; have d0 := F5.2.2.1.cell 0 _ rfl; have s0 := F5.2.2.2.1.cell 0 _ rfl; have o0 := F5.2.2.2.2.1.cell 0 _ rfl; have r0 := F5.2.2.2.2.2.1.cell 0 _ rfl; have r1 := F5.2.2.2.2.2.1.cell 1 _ rfl; have g0 := F5.2.2.2.2.2.1.frozen 0; have g1 := F5.2.2.2.2.2.1.frozen 1; have j0 := F5J.cell 0 _ rfl; have j1 := F5J.cell 1 _ rfl; have h0_ := F5J.frozen 0; have h1_ := F5J.frozen 1; obtain ⟨c0_, c1_, c2_⟩ := fns_cells F5S; have g0s := fun u v => (F5.set hjb u v).2.2.2.2.2.1.frozen 0; have g1s := fun u v => (F5.set hjb u v).2.2.2.2.2.1.frozen 1; have r0s := fun u v => (F5.set hjb u v).2.2.2.2.2.1.cell 0 _ rfl; have r1s := fun u v => (F5.set hjb u v).2.2.2.2.2.1.cell 1 _ rfl; have j0s := fun u v => (p_put u v F5J F5.2.2.2.2.2.2 (by omega)).1.cell 0 _ rfl; have j1s := fun u v => (p_put u v F5J F5.2.2.2.2.2.2 (by omega)).1.cell 1 _ rfl)
    | go_in)
  rw [rounds_succ]
  go_wp2
  (try simp only [Exit.noGoto])
  show bodyPost _ _ _ Exit.ret _ (World.setCell (World.setCell ?W _ _) _ _)
  have x := p_put (.int .i64 (a)) (.int .i64 (b)) ((F5.set hjb (.int .i64 a) (.int .i64 b)).2.2.2.2.2.1 : Blk ?W _ _ _) (F5.set hjb (.int .i64 a) (.int .i64 b)).2.2.2.2.2.2 (by omega)
  have y0 := x.1.cell 0 _ rfl
  have y1 := x.1.cell 1 _ rfl
  refine bodyPost_ret (v := .tuple #[.agg #[.int .i64 (a), .int .i64 (b)], .int .i64 0, .int .i64 0]) (by simp [results, Try.results35, go_sem, y0, y1]) rfl ⟨rfl, x.2⟩
set_option maxRecDepth 100000 in
set_option maxHeartbeats 4000000 in
theorem pass_enter_no (y0 y1 y2 y3 y4 y5 y6 y7 y8 y9 y10 l i : Int) (bk : Bool) (x0 x1 x2 x3 x4 x5 x6 x7 x8 x9 x10 day s : Int) (w : World) (a b r : Int) (hJ : jisB y0 y1 y2 y3 y4 y5 y6 y7 y8 y9 y10 l i = true) (hL : lisB s = true) (hS : sameR y0 y1 y2 y3 y4 y5 y6 y7 y8 y9 y10 l i bk x0 x1 x2 x3 x4 x5 x6 x7 x8 x9 x10 = (0, 0)) (hD : dayR x0 x1 x2 x3 x4 x5 x6 x7 x8 x9 x10 day false = (0, 0)) (hE : enterR x0 x1 x2 x3 x4 x5 x6 x7 x8 x9 x10 l i s = (a, b, r, 0)) (hw : -9223372036854775808 ≤ s ∧ s ≤ 9223372036854775807) (hr : r ≠ 0) :
    Calls Try.prog 35 #[.agg #[.int .i64 y0, .int .i64 y1, .int .i64 y2, .int .i64 y3, .int .i64 y4, .int .i64 y5, .int .i64 y6, .int .i64 y7, .int .i64 y8, .int .i64 y9, .int .i64 y10, .int .i64 l, .int .i64 i, .bool bk], .agg #[.int .i64 x0, .int .i64 x1, .int .i64 x2, .int .i64 x3, .int .i64 x4, .int .i64 x5, .int .i64 x6, .int .i64 x7, .int .i64 x8, .int .i64 x9, .int .i64 x10], .int .i64 day, .int .i64 s, .bool false] w fun e w' => e = .returned (.tuple #[.agg #[.int .i64 a, .int .i64 b], .int .i64 r, .int .i64 0]) ∧ Below w.heap.size w w' := by
  go_enter Try.func35, Try.ntmps35
  go_wp2
  go_step3
  go_wp2_with (first
    | (go_at_call 42; refine (lis_e _ _ _ _ _ _ _ _ _ _ _ _ _ _ _).mono ?_; rintro e w1 ⟨rfl, hb⟩; rw [hJ]; have F1 := (Six.first w (enA y0 y1 y2 y3 y4 y5 y6 y7 y8 y9 y10 l i bk) (tkA x0 x1 x2 x3 x4 x5 x6 x7 x8 x9 x10) day s false).below hb; clear hb; obtain ⟨e0, e1, e2, e3, e4, e5, e6, e7, e8, e9, e10, e11, e12, e13⟩ := F1.1.entry; obtain ⟨q0, q1, q2, q3, q4, q5, q6, q7, q8, q9, q10⟩ := F1.2.1.all; have d0 := F1.2.2.1.cell 0 _ rfl; have s0 := F1.2.2.2.1.cell 0 _ rfl; have o0 := F1.2.2.2.2.1.cell 0 _ rfl; have r0 := F1.2.2.2.2.2.1.cell 0 _ rfl; have r1 := F1.2.2.2.2.2.1.cell 1 _ rfl; have g0 := F1.2.2.2.2.2.1.frozen 0; have g1 := F1.2.2.2.2.2.1.frozen 1)
    | (go_at_call 43; refine (lis_any _ _).mono ?_; rintro e w' ⟨rfl, rfl⟩; rw [hL])
    | go_in)
  have F2 := (F1.alloc (.cells #[.int .i64 l, .int .i64 i] 25)).alloc (.cells (fns w.heap.size w1.heap.size) 79)
  have F2J : Blk _ w1.heap.size #[.int .i64 l, .int .i64 i] 25 := (Blk.new w1 _ _).alloc (.cells (fns w.heap.size w1.heap.size) 79)
  have F2S : Blk _ (w1.heap.size + 1) (fns w.heap.size w1.heap.size) 79 := (by simpa using Blk.new (w1.alloc (.cells #[.int .i64 l, .int .i64 i] 25)) (fns w.heap.size w1.heap.size) 79 : Blk ((w1.alloc (.cells #[.int .i64 l, .int .i64 i] 25)).alloc (.cells (fns w.heap.size w1.heap.size) 79)) (w1.heap.size + 1) (fns w.heap.size w1.heap.size) 79)
  have hjb : w.heap.size + 1 + 1 + 1 + 1 + 1 < w1.heap.size := F1.2.2.2.2.2.1.lt
  clear e0 e1 e2 e3 e4 e5 e6 e7 e8 e9 e10 e11 e12 e13 q0 q1 q2 q3 q4 q5 q6 q7 q8 q9 q10 d0 s0 o0 r0 r1 g0 g1
  go_step3
  go_wp2
  generalize hW : (w1.alloc (.cells #[.int .i64 l, .int .i64 i] 25)).alloc (.cells (fns w.heap.size w1.heap.size) 79) = W2 at F2 F2J F2S
  unfold fns at hW
  rw [hW]
  clear hW
  obtain ⟨e0, e1, e2, e3, e4, e5, e6, e7, e8, e9, e10, e11, e12, e13⟩ := F2.1.entry; obtain ⟨q0, q1, q2, q3, q4, q5, q6, q7, q8, q9, q10⟩ := F2.2.1.all; have d0 := F2.2.2.1.cell 0 _ rfl; have s0 := F2.2.2.2.1.cell 0 _ rfl; have o0 := F2.2.2.2.2.1.cell 0 _ rfl; have r0 := F2.2.2.2.2.2.1.cell 0 _ rfl; have r1 := F2.2.2.2.2.2.1.cell 1 _ rfl; have g0 := F2.2.2.2.2.2.1.frozen 0; have g1 := F2.2.2.2.2.2.1.frozen 1; have j0 := F2J.cell 0 _ rfl; have j1 := F2J.cell 1 _ rfl; have h0_ := F2J.frozen 0; have h1_ := F2J.frozen 1; obtain ⟨c0_, c1_, c2_⟩ := fns_cells F2S
  refine wp_loop_rounds 4 ?_
  rw [rounds_succ]
  go_wp2_with (first
    | (go_at_call 38; refine (same_any _ _ _ _ _ _ _ _ _ _ _ _ _ _ _ _ _ _ _ _ _ _ _ _ _ _).mono ?_; rintro e w3 ⟨rfl, hb⟩; rw [hS]; have F3 := F2.below hb; have F3J := F2J.below hb F2J.lt; have F3S := F2S.below hb F2S.lt; clear hb; clear e0 e1 e2 e3 e4 e5 e6 e7 e8 e9 e10 e11 e12 e13 q0 q1 q2 q3 q4 q5 q6 q7 q8 q9 q10 d0 s0 o0 r0 r1 g0 g1; clear j0 j1 h0_ h1_ c0_ c1_ c2_; obtain ⟨e0, e1, e2, e3, e4, e5, e6, e7, e8, e9, e10, e11, e12, e13⟩ := F3.1.entry; obtain ⟨q0, q1, q2, q3, q4, q5, q6, q7, q8, q9, q10⟩ := F3.2.1.all; have d0 := F3.2.2.1.cell 0 _ rfl; have s0 := F3.2.2.2.1.cell 0 _ rfl; have o0 := F3.2.2.2.2.1.cell 0 _ rfl; have r0 := F3.2.2.2.2.2.1.cell 0 _ rfl; have r1 := F3.2.2.2.2.2.1.cell 1 _ rfl; have g0 := F3.2.2.2.2.2.1.frozen 0; have g1 := F3.2.2.2.2.2.1.frozen 1; have j0 := F3J.cell 0 _ rfl; have j1 := F3J.cell 1 _ rfl; have h0_ := F3J.frozen 0; have h1_ := F3J.frozen 1; obtain ⟨c0_, c1_, c2_⟩ := fns_cells F3S)
    | go_in)
  rw [rounds_succ]
  go_wp2_with (first
    | (go_at_call 40; refine (day_any _ _ _ _ _ _ _ _ _ _ _ _ _ _).mono ?_; rintro e w4 ⟨rfl, hb⟩; rw [hD]; have F4 := F3.below hb; have F4J := F3J.below hb F3J.lt; have F4S := F3S.below hb F3S.lt; clear hb; clear e0 e1 e2 e3 e4 e5 e6 e7 e8 e9 e10 e11 e12 e13 q0 q1 q2 q3 q4 q5 q6 q7 q8 q9 q10 d0 s0 o0 r0 r1 g0 g1; clear j0 j1 h0_ h1_ c0_ c1_ c2_; obtain ⟨e0, e1, e2, e3, e4, e5, e6, e7, e8, e9, e10, e11, e12, e13⟩ := F4.1.entry; obtain ⟨q0, q1, q2, q3, q4, q5, q6, q7, q8, q9, q10⟩ := F4.2.1.all; have d0 := F4.2.2.1.cell 0 _ rfl; have s0 := F4.2.2.2.1.cell 0 _ rfl; have o0 := F4.2.2.2.2.1.cell 0 _ rfl; have r0 := F4.2.2.2.2.2.1.cell 0 _ rfl; have r1 := F4.2.2.2.2.2.1.cell 1 _ rfl; have g0 := F4.2.2.2.2.2.1.frozen 0; have g1 := F4.2.2.2.2.2.1.frozen 1; have j0 := F4J.cell 0 _ rfl; have j1 := F4J.cell 1 _ rfl; have h0_ := F4J.frozen 0; have h1_ := F4J.frozen 1; obtain ⟨c0_, c1_, c2_⟩ := fns_cells F4S)
    | go_in)
  rw [rounds_succ]
  go_wp2_with (first
    | (go_at_call 15; refine (enter_any _ _ _ _ _ _ _ _ _ _ _ _ _ _ _ hw).mono ?_; rintro e w5 ⟨rfl, hb⟩; rw [hE]; have F5 := F4.below hb; have F5J := F4J.below hb F4J.lt; have F5S := F4S.below hb F4S.lt; clear hb; clear e0 e1 e2 e3 e4 e5 e6 e7 e8 e9 e10 e11 e12 e13 q0 q1 q2 q3 q4 q5 q6 q7 q8 q9 q10 d0 s0 o0 r0 r1 g0 g1; clear j0 j1 h0_ h1_ c0_ c1_ c2_; obtain ⟨e0, e1, e2, e3, e4, e5, e6, e7, e8, e9, e10, e11, e12, e13⟩ := F5.1.entry; obtain ⟨q0, q1, q2, q3, q4, q5, q6, q7, q8, q9, q10⟩ := F5.2.1.all; have d0 := F5.2.2.1.cell 0 _ rfl; have s0 := F5.2.2.2.1.cell 0 _ rfl; have o0 := F5.2.2.2.2.1.cell 0 _ rfl; have r0 := F5.2.2.2.2.2.1.cell 0 _ rfl; have r1 := F5.2.2.2.2.2.1.cell 1 _ rfl; have g0 := F5.2.2.2.2.2.1.frozen 0; have g1 := F5.2.2.2.2.2.1.frozen 1; have j0 := F5J.cell 0 _ rfl; have j1 := F5J.cell 1 _ rfl; have h0_ := F5J.frozen 0; have h1_ := F5J.frozen 1; obtain ⟨c0_, c1_, c2_⟩ := fns_cells F5S; have g0s := fun u v => (F5.set hjb u v).2.2.2.2.2.1.frozen 0; have g1s := fun u v => (F5.set hjb u v).2.2.2.2.2.1.frozen 1; have r0s := fun u v => (F5.set hjb u v).2.2.2.2.2.1.cell 0 _ rfl; have r1s := fun u v => (F5.set hjb u v).2.2.2.2.2.1.cell 1 _ rfl; have j0s := fun u v => (p_put u v F5J F5.2.2.2.2.2.2 (by omega)).1.cell 0 _ rfl; have j1s := fun u v => (p_put u v F5J F5.2.2.2.2.2.2 (by omega)).1.cell 1 _ rfl)
    | go_in)
  (try simp only [Exit.noGoto])
  show bodyPost _ _ _ Exit.ret _ (World.setCell (World.setCell ?W _ _) _ _)
  have x := p_put (.int .i64 (a)) (.int .i64 (b)) ((F5.set hjb (.int .i64 a) (.int .i64 b)).2.2.2.2.2.1 : Blk ?W _ _ _) (F5.set hjb (.int .i64 a) (.int .i64 b)).2.2.2.2.2.2 (by omega)
  have y0 := x.1.cell 0 _ rfl
  have y1 := x.1.cell 1 _ rfl
  refine bodyPost_ret (v := .tuple #[.agg #[.int .i64 (a), .int .i64 (b)], .int .i64 r, .int .i64 0]) (by simp [results, Try.results35, go_sem, y0, y1]) rfl ⟨rfl, x.2⟩
end Go.Proofs.Ytdiijjdhofaodaa.G
end
