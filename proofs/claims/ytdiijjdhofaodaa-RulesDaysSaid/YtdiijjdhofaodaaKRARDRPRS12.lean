/- What the functions that this claim reaches do and answer: printed words and walks, walks by hand and plain laws, packed together, each with its own remark; printed rows are by the kit's print program, turned by this session. Conditions: those that each theorem states. -/
import Derived.Test.YtdiijjdhofaodaaKRARDRPRS10
import Derived.Test.YtdiijjdhofaodaaKA0
import Derived.Test.YtdiijjdhofaodaaKA1
import Derived.Test.YtdiijjdhofaodaaKRARDRPRS11
import Derived.Test.YtdiijjdhofaodaaKA2
section
namespace Go.Proofs.Ytdiijjdhofaodaa.G
open Go Go.RowKit Go.Proofs.YtdiijjdhofaodaaW.PrintWords Go.Proofs.YtdiijjdhofaodaaW.PrintLast Go.Proofs.YtdiijjdhofaodaaW.PrintMore
set_option maxRecDepth 100000 in
set_option maxHeartbeats 4000000 in
theorem pass_leave_ok (y0 y1 y2 y3 y4 y5 y6 y7 y8 y9 y10 l i : Int) (bk : Bool) (x0 x1 x2 x3 x4 x5 x6 x7 x8 x9 x10 day s : Int) (w : World) (a b : Int) (hJ : jisB y0 y1 y2 y3 y4 y5 y6 y7 y8 y9 y10 l i = true) (hL : lisB s = true) (hS : sameR y0 y1 y2 y3 y4 y5 y6 y7 y8 y9 y10 l i bk x0 x1 x2 x3 x4 x5 x6 x7 x8 x9 x10 = (0, 0)) (hD : dayR x0 x1 x2 x3 x4 x5 x6 x7 x8 x9 x10 day true = (0, 0)) (hE : leaveR x0 x1 x2 x3 x4 x5 x6 x7 x8 x9 x10 l i s = (a, b, 0, 0)) (hw : -9223372036854775808 ≤ s ∧ s ≤ 9223372036854775807) :
    Calls Try.prog 35 #[.agg #[.int .i64 y0, .int .i64 y1, .int .i64 y2, .int .i64 y3, .int .i64 y4, .int .i64 y5, .int .i64 y6, .int .i64 y7, .int .i64 y8, .int .i64 y9, .int .i64 y10, .int .i64 l, .int .i64 i, .bool bk], .agg #[.int .i64 x0, .int .i64 x1, .int .i64 x2, .int .i64 x3, .int .i64 x4, .int .i64 x5, .int .i64 x6, .int .i64 x7, .int .i64 x8, .int .i64 x9, .int .i64 x10], .int .i64 day, .int .i64 s, .bool true] w fun e w' => e = .returned (.tuple #[.agg #[.int .i64 a, .int .i64 b], .int .i64 0, .int .i64 0]) ∧ Below w.heap.size w w' := by
  go_enter Try.func35, Try.ntmps35
  go_wp2
  go_step3
  go_wp2_with (first
    | (go_at_call 42; refine (lis_e _ _ _ _ _ _ _ _ _ _ _ _ _ _ _).mono ?_; rintro e w1 ⟨rfl, hb⟩; rw [hJ]; have F1 := (Six.first w (enA y0 y1 y2 y3 y4 y5 y6 y7 y8 y9 y10 l i bk) (tkA x0 x1 x2 x3 x4 x5 x6 x7 x8 x9 x10) day s true).below hb; clear hb; obtain ⟨e0, e1, e2, e3, e4, e5, e6, e7, e8, e9, e10, e11, e12, e13⟩ := F1.1.entry; obtain ⟨q0, q1, q2, q3, q4, q5, q6, q7, q8, q9, q10⟩ := F1.2.1.all; have d0 := F1.2.2.1.cell 0 _ rfl; have s0 := F1.2.2.2.1.cell 0 _ rfl; have o0 := F1.2.2.2.2.1.cell 0 _ rfl; have r0 := F1.2.2.2.2.2.1.cell 0 _ rfl; have r1 := F1.2.2.2.2.2.1.cell 1 _ rfl; have g0 := F1.2.2.2.2.2.1.frozen 0; have g1 := F1.2.2.2.2.2.1.frozen 1)
    | (go_at_call 43; refine (lis_any _ _).mono ?_; rintro e w' ⟨rfl, rfl⟩; rw [hL])
    | go_in)
  have F2 := (F1.alloc (.cells #[.int .i64 l, .int .i64 i] 25)).alloc (.cells (fns w.heap.size w1.heap.size) 79)
  have F2J : Blk _ w1.heap.size #[.int .i64 l, .int .i64 i] 25 := (Blk.new w1 _ _).alloc (.cells (fns w.heap.size w1.heap.size) 79)
  have F2S : Blk _ (w1.heap.size + 1) (fns w.heap.size w1.heap.size) 79 := (by simpa using Blk.new (w1.alloc (.cells #[.int .i64 l, .int .i64 i] 25)) (fns w.heap.size w1.heap.size) 79 : Blk ((w1.alloc (.cells #[.int .i64 l, .int .i64 i] 25)).alloc (.cells (fns w.heap.size w1.heap.size) 79)) (w1.heap.size + 1) (fns w.heap.size w1.heap.size) 79)
  have hjb : w.heap.size + 1 + 1 + 1 + 1 + 1 < w1.heap.size := F1.2.2.2.2.2.1.lt
  clear e0 e1 e2 e3 e4 e5 e6 e7 e8 e9 e10 e11 e12 e13 q0 q1 q2 q3 q4 q5 q6 q7 q8 q9 q10 d0 s0 o0 r0 r1 g0 g1
  go_step3
  go_wp2
  generalize hW : (w1.alloc (.cells #[.int .i64 l, .int .i64 i] 25)).alloc (.cells (fns w.heap.size w1.heap.size) 79) = W2 at F2 F2J F2S
  unfold fns at hW
  rw [hW]
  clear hW
  obtain ⟨e0, e1, e2, e3, e4, e5, e6, e7, e8, e9, e10, e11, e12, e13⟩ := F2.1.entry; obtain ⟨q0, q1, q2, q3, q4, q5, q6, q7, q8, q9, q10⟩ := F2.2.1.all; have d0 := F2.2.2.1.cell 0 _ rfl; have s0 := F2.2.2.2.1.cell 0 _ rfl; have o0 := F2.2.2.2.2.1.cell 0 _ rfl; have r0 := F2.2.2.2.2.2.1.cell 0 _ rfl; have r1 := F2.2.2.2.2.2.1.cell 1 _ rfl; have g0 := F2.2.2.2.2.2.1.frozen 0; have g1 := F2.2.2.2.2.2.1.frozen 1; have j0 := F2J.cell 0 _ rfl; have j1 := F2J.cell 1 _ rfl; have h0_ := F2J.frozen 0; have h1_ := F2J.frozen 1; obtain ⟨c0_, c1_, c2_⟩ := fns_cells F2S
  refine wp_loop_rounds 4 ?_
  rw [rounds_succ]
  go_wp2_with (first
    | (go_at_call 38; refine (same_any _ _ _ _ _ _ _ _ _ _ _ _ _ _ _ _ _ _ _ _ _ _ _ _ _ _).mono ?_; rintro e w3 ⟨rfl, hb⟩; rw [hS]; have F3 := F2.below hb; have F3J := F2J.below hb F2J.lt; have F3S := F2S.below hb F2S.lt; clear hb; clear e0 e1 e2 e3 e4 e5 e6 e7 e8 e9 e10 e11 e12 e13 q0 q1 q2 q3 q4 q5 q6 q7 q8 q9 q10 d0 s0 o0 r0 r1 g0 g1; clear j0 j1 h0_ h1_ c0_ c1_ c2_; obtain ⟨e0, e1, e2, e3, e4, e5, e6, e7, e8, e9, e10, e11, e12, e13⟩ := F3.1.entry; obtain ⟨q0, q1, q2, q3, q4, q5, q6, q7, q8, q9, q10⟩ := F3.2.1.all; have d0 := F3.2.2.1.cell 0 _ rfl; have s0 := F3.2.2.2.1.cell 0 _ rfl; have o0 := F3.2.2.2.2.1.cell 0 _ rfl; have r0 := F3.2.2.2.2.2.1.cell 0 _ rfl; have r1 := F3.2.2.2.2.2.1.cell 1 _ rfl; have g0 := F3.2.2.2.2.2.1.frozen 0; have g1 := F3.2.2.2.2.2.1.frozen 1; have j0 := F3J.cell 0 _ rfl; have j1 := F3J.cell 1 _ rfl; have h0_ := F3J.frozen 0; have h1_ := F3J.frozen 1; obtain ⟨c0_, c1_, c2_⟩ := fns_cells F3S)
    | go_in)
  rw [rounds_succ]
  go_wp2_with (first
    | (go_at_call 40; refine (day_any _ _ _ _ _ _ _ _ _ _ _ _ _ _).mono ?_; rintro e w4 ⟨rfl, hb⟩; rw [hD]; have F4 := F3.below hb; have F4J := F3J.below hb F3J.lt; have F4S := F3S.below hb F3S.lt; clear hb; clear e0 e1 e2 e3 e4 e5 e6 e7 e8 e9 e10 e11 e12 e13 q0 q1 q2 q3 q4 q5 q6 q7 q8 q9 q10 d0 s0 o0 r0 r1 g0 g1; clear j0 j1 h0_ h1_ c0_ c1_ c2_; obtain ⟨e0, e1, e2, e3, e4, e5, e6, e7, e8, e9, e10, e11, e12, e13⟩ := F4.1.entry; obtain ⟨q0, q1, q2, q3, q4, q5, q6, q7, q8, q9, q10⟩ := F4.2.1.all; have d0 := F4.2.2.1.cell 0 _ rfl; have s0 := F4.2.2.2.1.cell 0 _ rfl; have o0 := F4.2.2.2.2.1.cell 0 _ rfl; have r0 := F4.2.2.2.2.2.1.cell 0 _ rfl; have r1 := F4.2.2.2.2.2.1.cell 1 _ rfl; have g0 := F4.2.2.2.2.2.1.frozen 0; have g1 := F4.2.2.2.2.2.1.frozen 1; have j0 := F4J.cell 0 _ rfl; have j1 := F4J.cell 1 _ rfl; have h0_ := F4J.frozen 0; have h1_ := F4J.frozen 1; obtain ⟨c0_, c1_, c2_⟩ := fns_cells F4S)
    | go_in)
  rw [rounds_succ]
  go_wp2_with (first
    | (go_at_call 17; refine (leave_any _ _ _ _ _ _ _ _ _ _ _ _ _ _ _ hw).mono ?_; rintro e w5 ⟨rfl, hb⟩; rw [hE]; have F5 := F4.below hb; have F5J := F4J.below hb F4J.lt; have F5S := F4S.below hb F4S.lt; clear hb; clear e0 e1 e2 e3 e4 e5 e6 e7 e8 e9 e10 e11 e12 e13 q0 q1 q2 q3 q4 q5 q6 q7 q8 q9 q10 d0 s0 o0 r0 r1 g0 g1; clear j0 j1 h0_ h1_ c0_ c1_ c2_; obtain ⟨e0, e1, e2, e3, e4, e5, e6, e7, e8, e9, e10, e11, e12, e13⟩ := F5.1.entry; obtain ⟨q0, q1, q2, q3, q4, q5, q6, q7, q8, q9, q10⟩ := F5.2.1.all; have d0 := F5.2.2.1.cell 0 _ rfl; have s0 := F5.2.2.2.1.cell 0 _ rfl; have o0 := F5.2.2.2.2.1.cell 0 _ rfl; have r0 := F5.2.2.2.2.2.1.cell 0 _ rfl; have r1 := F5.2.2.2.2.2.1.cell 1 _ rfl; have g0 := F5.2.2.2.2.2.1.frozen 0; have g1 := F5.2.2.2.2.2.1.frozen 1; have j0 := F5J.cell 0 _ rfl; have j1 := F5J.cell 1 _ rfl; have h0_ := F5J.frozen 0; have h1_ := F5J.frozen 1; obtain ⟨c0_, c1_, c2_⟩ := fns_cells F5S; have g0s := fun u v => (F5.set hjb u v).2.2.2.2.2.1.frozen 0; have g1s := fun u v => (F5.set hjb u v).2.2.2.2.2.1.frozen 1; have r0s := fun u v => (F5.set hjb u v).2.2.2.2.2.1.cell 0 _ rfl; have r1s := fun u v => (F5.set hjb u v).2.2.2.2.2.1.cell 1 _ rfl; have j0s := fun u v => (p_put u v F5J F5.2.2.2.2.2.2 (by omega)).1.cell 0 _ rfl; have j1s := fun u v => (p_put u v F5J F5.2.2.2.2.2.2 (by omega)).1.cell 1 _ rfl)
    | go_in)
  rw [rounds_succ]
  go_wp2
  (try simp only [Exit.noGoto])
  show bodyPost _ _ _ Exit.ret _ (World.setCell (World.setCell ?W _ _) _ _)
  have x := p_put (.int .i64 (a)) (.int .i64 (b)) ((F5.set hjb (.int .i64 a) (.int .i64 b)).2.2.2.2.2.1 : Blk ?W _ _ _) (F5.set hjb (.int .i64 a) (.int .i64 b)).2.2.2.2.2.2 (by omega)
  have y0 := x.1.cell 0 _ rfl
  have y1 := x.1.cell 1 _ rfl
  refine bodyPost_ret (v := .tuple #[.agg #[.int .i64 (a), .int .i64 (b)], .int .i64 0, .int .i64 0]) (by simp [results, Try.results35, go_sem, y0, y1]) rfl ⟨rfl, x.2⟩
set_option maxRecDepth 100000 in
set_option maxHeartbeats 4000000 in
theorem pass_leave_no (y0 y1 y2 y3 y4 y5 y6 y7 y8 y9 y10 l i : Int) (bk : Bool) (x0 x1 x2 x3 x4 x5 x6 x7 x8 x9 x10 day s : Int) (w : World) (a b r : Int) (hJ : jisB y0 y1 y2 y3 y4 y5 y6 y7 y8 y9 y10 l i = true) (hL : lisB s = true) (hS : sameR y0 y1 y2 y3 y4 y5 y6 y7 y8 y9 y10 l i bk x0 x1 x2 x3 x4 x5 x6 x7 x8 x9 x10 = (0, 0)) (hD : dayR x0 x1 x2 x3 x4 x5 x6 x7 x8 x9 x10 day true = (0, 0)) (hE : leaveR x0 x1 x2 x3 x4 x5 x6 x7 x8 x9 x10 l i s = (a, b, r, 0)) (hw : -9223372036854775808 ≤ s ∧ s ≤ 9223372036854775807) (hr : r ≠ 0) :
    Calls Try.prog 35 #[.agg #[.int .i64 y0, .int .i64 y1, .int .i64 y2, .int .i64 y3, .int .i64 y4, .int .i64 y5, .int .i64 y6, .int .i64 y7, .int .i64 y8, .int .i64 y9, .int .i64 y10, .int .i64 l, .int .i64 i, .bool bk], .agg #[.int .i64 x0, .int .i64 x1, .int .i64 x2, .int .i64 x3, .int .i64 x4, .int .i64 x5, .int .i64 x6, .int .i64 x7, .int .i64 x8, .int .i64 x9, .int .i64 x10], .int .i64 day, .int .i64 s, .bool true] w fun e w' => e = .returned (.tuple #[.agg #[.int .i64 a, .int .i64 b], .int .i64 r, .int .i64 0]) ∧ Below w.heap.size w w' := by
  go_enter Try.func35, Try.ntmps35
  go_wp2
  go_step3
  go_wp2_with (first
    | (go_at_call 42; refine (lis_e _ _ _ _ _ _ _ _ _ _ _ _ _ _ _).mono ?_; rintro e w1 ⟨rfl, hb⟩; rw [hJ]; have F1 := (Six.first w (enA y0 y1 y2 y3 y4 y5 y6 y7 y8 y9 y10 l i bk) (tkA x0 x1 x2 x3 x4 x5 x6 x7 x8 x9 x10) day s true).below hb; clear hb; obtain ⟨e0, e1, e2, e3, e4, e5, e6, e7, e8, e9, e10, e11, e12, e13⟩ := F1.1.entry; obtain ⟨q0, q1, q2, q3, q4, q5, q6, q7, q8, q9, q10⟩ := F1.2.1.all; have d0 := F1.2.2.1.cell 0 _ rfl; have s0 := F1.2.2.2.1.cell 0 _ rfl; have o0 := F1.2.2.2.2.1.cell 0 _ rfl; have r0 := F1.2.2.2.2.2.1.cell 0 _ rfl; have r1 := F1.2.2.2.2.2.1.cell 1 _ rfl; have g0 := F1.2.2.2.2.2.1.frozen 0; have g1 := F1.2.2.2.2.2.1.frozen 1)
    | (go_at_call 43; refine (lis_any _ _).mono ?_; rintro e w' ⟨rfl, rfl⟩; rw [hL])
    | go_in)
  have F2 := (F1.alloc (.cells #[.int .i64 l, .int .i64 i] 25)).alloc (.cells (fns w.heap.size w1.heap.size) 79)
  have F2J : Blk _ w1.heap.size #[.int .i64 l, .int .i64 i] 25 := (Blk.new w1 _ _).alloc (.cells (fns w.heap.size w1.heap.size) 79)
  have F2S : Blk _ (w1.heap.size + 1) (fns w.heap.size w1.heap.size) 79 := (by simpa using Blk.new (w1.alloc (.cells #[.int .i64 l, .int .i64 i] 25)) (fns w.heap.size w1.heap.size) 79 : Blk ((w1.alloc (.cells #[.int .i64 l, .int .i64 i] 25)).alloc (.cells (fns w.heap.size w1.heap.size) 79)) (w1.heap.size + 1) (fns w.heap.size w1.heap.size) 79)
  have hjb : w.heap.size + 1 + 1 + 1 + 1 + 1 < w1.heap.size := F1.2.2.2.2.2.1.lt
  clear e0 e1 e2 e3 e4 e5 e6 e7 e8 e9 e10 e11 e12 e13 q0 q1 q2 q3 q4 q5 q6 q7 q8 q9 q10 d0 s0 o0 r0 r1 g0 g1
  go_step3
  go_wp2
  generalize hW : (w1.alloc (.cells #[.int .i64 l, .int .i64 i] 25)).alloc (.cells (fns w.heap.size w1.heap.size) 79) = W2 at F2 F2J F2S
  unfold fns at hW
  rw [hW]
  clear hW
  obtain ⟨e0, e1, e2, e3, e4, e5, e6, e7, e8, e9, e10, e11, e12, e13⟩ := F2.1.entry; obtain ⟨q0, q1, q2, q3, q4, q5, q6, q7, q8, q9, q10⟩ := F2.2.1.all; have d0 := F2.2.2.1.cell 0 _ rfl; have s0 := F2.2.2.2.1.cell 0 _ rfl; have o0 := F2.2.2.2.2.1.cell 0 _ rfl; have r0 := F2.2.2.2.2.2.1.cell 0 _ rfl; have r1 := F2.2.2.2.2.2.1.cell 1 _ rfl; have g0 := F2.2.2.2.2.2.1.frozen 0; have g1 := F2.2.2.2.2.2.1.frozen 1; have j0 := F2J.cell 0 _ rfl; have j1 := F2J.cell 1 _ rfl; have h0_ := F2J.frozen 0; have h1_ := F2J.frozen 1; obtain ⟨c0_, c1_, c2_⟩ := fns_cells F2S
  refine wp_loop_rounds 4 ?_
  rw [rounds_succ]
  go_wp2_with (first
    | (go_at_call 38; refine (same_any _ _ _ _ _ _ _ _ _ _ _ _ _ _ _ _ _ _ _ _ _ _ _ _ _ _).mono ?_; rintro e w3 ⟨rfl, hb⟩; rw [hS]; have F3 := F2.below hb; have F3J := F2J.below hb F2J.lt; have F3S := F2S.below hb F2S.lt; clear hb; clear e0 e1 e2 e3 e4 e5 e6 e7 e8 e9 e10 e11 e12 e13 q0 q1 q2 q3 q4 q5 q6 q7 q8 q9 q10 d0 s0 o0 r0 r1 g0 g1; clear j0 j1 h0_ h1_ c0_ c1_ c2_; obtain ⟨e0, e1, e2, e3, e4, e5, e6, e7, e8, e9, e10, e11, e12, e13⟩ := F3.1.entry; obtain ⟨q0, q1, q2, q3, q4, q5, q6, q7, q8, q9, q10⟩ := F3.2.1.all; have d0 := F3.2.2.1.cell 0 _ rfl; have s0 := F3.2.2.2.1.cell 0 _ rfl; have o0 := F3.2.2.2.2.1.cell 0 _ rfl; have r0 := F3.2.2.2.2.2.1.cell 0 _ rfl; have r1 := F3.2.2.2.2.2.1.cell 1 _ rfl; have g0 := F3.2.2.2.2.2.1.frozen 0; have g1 := F3.2.2.2.2.2.1.frozen 1; have j0 := F3J.cell 0 _ rfl; have j1 := F3J.cell 1 _ rfl; have h0_ := F3J.frozen 0; have h1_ := F3J.frozen 1; obtain ⟨c0_, c1_, c2_⟩ := fns_cells F3S)
    | go_in)
  rw [rounds_succ]
  go_wp2_with (first
    | (go_at_call 40; refine (day_any _ _ _ _ _ _ _ _ _ _ _ _ _ _).mono ?_; rintro e w4 ⟨rfl, hb⟩; rw [hD]; have F4 := F3.below hb; have F4J := F3J.below hb F3J.lt; have F4S := F3S.below hb F3S.lt; clear hb; clear e0 e1 e2 e3 e4 e5 e6 e7 e8 e9 e10 e11 e12 e13 q0 q1 q2 q3 q4 q5 q6 q7 q8 q9 q10 d0 s0 o0 r0 r1 g0 g1; clear j0 j1 h0_ h1_ c0_ c1_ c2_; obtain ⟨e0, e1, e2, e3, e4, e5, e6, e7, e8, e9, e10, e11, e12, e13⟩ := F4.1.entry; obtain ⟨q0, q1, q2, q3, q4, q5, q6, q7, q8, q9, q10⟩ := F4.2.1.all; have d0 := F4.2.2.1.cell 0 _ rfl; have s0 := F4.2.2.2.1.cell 0 _ rfl; have o0 := F4.2.2.2.2.1.cell 0 _ rfl; have r0 := F4.2.2.2.2.2.1.cell 0 _ rfl; have r1 := F4.2.2.2.2.2.1.cell 1 _ rfl; have g0 := F4.2.2.2.2.2.1.frozen 0; have g1 := F4.2.2.2.2.2.1.frozen 1; have j0 := F4J.cell 0 _ rfl; have j1 := F4J.cell 1 _ rfl; have h0_ := F4J.frozen 0; have h1_ := F4J.frozen 1; obtain ⟨c0_, c1_, c2_⟩ := fns_cells F4S)
    | go_in)
  rw [rounds_succ]
  go_wp2_with (first
    | (go_at_call 17; refine (leave_any _ _ _ _ _ _ _ _ _ _ _ _ _ _ _ hw).mono ?_; rintro e w5 ⟨rfl, hb⟩; rw [hE]; have F5 := F4.below hb; have F5J := F4J.below hb F4J.lt; have F5S := F4S.below hb F4S.lt; clear hb; clear e0 e1 e2 e3 e4 e5 e6 e7 e8 e9 e10 e11 e12 e13 q0 q1 q2 q3 q4 q5 q6 q7 q8 q9 q10 d0 s0 o0 r0 r1 g0 g1; clear j0 j1 h0_ h1_ c0_ c1_ c2_; obtain ⟨e0, e1, e2, e3, e4, e5, e6, e7, e8, e9, e10, e11, e12, e13⟩ := F5.1.entry; obtain ⟨q0, q1, q2, q3, q4, q5, q6, q7, q8, q9, q10⟩ := F5.2.1.all; have d0 := F5.2.2.1.cell 0 _ rfl; have s0 := F5.2.2.2.1.cell 0 _ rfl; have o0 := F5.2.2.2.2.1.cell 0 _ rfl; have r0 := F5.2.2.2.2.2.1.cell 0 _ rfl; have r1 := F5.2.2.2.2.2.1.cell 1 _ rfl; have g0 := F5.2.2.2.2.2.1.frozen 0; have g1 := F5.2.2.2.2.2.1.frozen 1; have j0 := F5J.cell 0 _ rfl; have j1 := F5J.cell 1 _ rfl; have h0_ := F5J.frozen 0; have h1_ := F5J.frozen 1; obtain ⟨c0_, c1_, c2_⟩ := fns_cells F5S; have g0s := fun u v => (F5.set hjb u v).2.2.2.2.2.1.frozen 0; have g1s := fun u v => (F5.set hjb u v).2.2.2.2.2.1.frozen 1; have r0s := fun u v => (F5.set hjb u v).2.2.2.2.2.1.cell 0 _ rfl; have r1s := fun u v => (F5.set hjb u v).2.2.2.2.2.1.cell 1 _ rfl; have j0s := fun u v => (p_put u v F5J F5.2.2.2.2.2.2 (by omega)).1.cell 0 _ rfl; have j1s := fun u v => (p_put u v F5J F5.2.2.2.2.2.2 (by omega)).1.cell 1 _ rfl)
    | go_in)
  (try simp only [Exit.noGoto])
  show bodyPost _ _ _ Exit.ret _ (World.setCell (World.setCell ?W _ _) _ _)
  have x := p_put (.int .i64 (a)) (.int .i64 (b)) ((F5.set hjb (.int .i64 a) (.int .i64 b)).2.2.2.2.2.1 : Blk ?W _ _ _) (F5.set hjb (.int .i64 a) (.int .i64 b)).2.2.2.2.2.2 (by omega)
  have y0 := x.1.cell 0 _ rfl
  have y1 := x.1.cell 1 _ rfl
  refine bodyPost_ret (v := .tuple #[.agg #[.int .i64 (a), .int .i64 (b)], .int .i64 r, .int .i64 0]) (by simp [results, Try.results35, go_sem, y0, y1]) rfl ⟨rfl, x.2⟩
end Go.Proofs.Ytdiijjdhofaodaa.G
end
section
set_option linter.unusedSimpArgs false
namespace Go.Proofs.Ytdiijjdhofaodaa.Pure
open Go Go.RowKit Go.Proofs.Ytdiijjdhofaodaa.G Go.Proofs.Ytdiijjdhofaodaa.PL Go.Proofs.YtdiijjdhofaodaaW.PrintWords Go.Proofs.YtdiijjdhofaodaaW.PrintLast Go.Proofs.YtdiijjdhofaodaaW.PrintMore
section
variable (x0 x1 x2 x3 x4 x5 x6 x7 x8 x9 x10 l i : Int)
/-- What comes of entering or leaving is a journey of the ticket. -/
theorem enter_jis (s : Int) (h : (enterR x0 x1 x2 x3 x4 x5 x6 x7 x8 x9 x10 l i s).2.2.2 = 0) : jisB x0 x1 x2 x3 x4 x5 x6 x7 x8 x9 x10 l i = true ∧ 0 ≤ s ∧ s < 40 ∧ jisB x0 x1 x2 x3 x4 x5 x6 x7 x8 x9 x10 (enterR x0 x1 x2 x3 x4 x5 x6 x7 x8 x9 x10 l i s).1 (enterR x0 x1 x2 x3 x4 x5 x6 x7 x8 x9 x10 l i s).2.1 = true ∧ ((enterR x0 x1 x2 x3 x4 x5 x6 x7 x8 x9 x10 l i s).2.2.1 = 0 → i = 0 ∧ (enterR x0 x1 x2 x3 x4 x5 x6 x7 x8 x9 x10 l i s).2.1 = s + 1 ∧ (x1 ≠ 3 → (enterR x0 x1 x2 x3 x4 x5 x6 x7 x8 x9 x10 l i s).1 = l - 1 ∧ 0 < l)) ∧ ((enterR x0 x1 x2 x3 x4 x5 x6 x7 x8 x9 x10 l i s).2.2.1 ≠ 0 → (enterR x0 x1 x2 x3 x4 x5 x6 x7 x8 x9 x10 l i s).1 = l ∧ (enterR x0 x1 x2 x3 x4 x5 x6 x7 x8 x9 x10 l i s).2.1 = i) := by
  unfold enterR at h ⊢
  rcases coversR_cases x0 x1 x2 x3 x4 x5 x6 x7 x8 x9 x10 s with hc | ⟨hc2, hs, hs2⟩
  · rw [hc, if_neg (by simp)] at h
    exact absurd h (by decide)
  · cases hJ : jisB x0 x1 x2 x3 x4 x5 x6 x7 x8 x9 x10 l i
    · rw [hJ, if_neg (by simp)] at h
      exact absurd h (by decide)
    · have hj := jisB_facts hJ
      have ec : (coversR x0 x1 x2 x3 x4 x5 x6 x7 x8 x9 x10 (s + 1 - 1)) = coversR x0 x1 x2 x3 x4 x5 x6 x7 x8 x9 x10 s := by rw [Int.add_sub_cancel]
      rw [if_pos ⟨hc2, rfl⟩]
      cases hb : (coversR x0 x1 x2 x3 x4 x5 x6 x7 x8 x9 x10 s).1
      · rw [if_neg (by decide)]
        exact ⟨rfl, hs, hs2, hJ, fun h => absurd h (by simp), fun _ => ⟨rfl, rfl⟩⟩
      · rw [if_pos rfl]
        by_cases hi : i = 0
        · rw [if_pos hi]
          by_cases h3 : x1 = 3
          · rw [if_pos h3]
            refine ⟨rfl, hs, hs2, ?_, fun _ => ⟨hi, rfl, fun h => absurd h3 h⟩, fun h => absurd rfl h⟩
            show jisB x0 x1 x2 x3 x4 x5 x6 x7 x8 x9 x10 0 (s + 1) = true
            unfold jisB suitsB
            rw [hj.1, ec, hb, decide_eq_true h3, decide_eq_true (show (0 : Int) ≤ 0 by omega), decide_eq_true (show 0 ≤ x9 by omega), decide_eq_true (show 0 ≤ s + 1 by omega), decide_eq_true (show s + 1 ≤ 40 by omega)]
            simp
          · rw [if_neg h3]
            by_cases hl : 0 < l
            · rw [if_pos hl]
              refine ⟨rfl, hs, hs2, ?_, fun _ => ⟨hi, rfl, fun _ => ⟨rfl, hl⟩⟩, fun h => absurd rfl h⟩
              show jisB x0 x1 x2 x3 x4 x5 x6 x7 x8 x9 x10 (l - 1) (s + 1) = true
              unfold jisB suitsB
              rw [hj.1, ec, hb, decide_eq_true (show 0 ≤ l - 1 by omega), decide_eq_true (show l - 1 ≤ x9 by omega), decide_eq_true (show 0 ≤ s + 1 by omega), decide_eq_true (show s + 1 ≤ 40 by omega), decide_eq_true (show l - 1 < x9 by omega)]
              simp
            · rw [if_neg hl]
              exact ⟨rfl, hs, hs2, hJ, fun h => absurd h (by simp), fun _ => ⟨rfl, rfl⟩⟩
        · rw [if_neg hi]
          exact ⟨rfl, hs, hs2, hJ, fun h => absurd h (by simp), fun _ => ⟨rfl, rfl⟩⟩
theorem leave_jis (s : Int) (h : (leaveR x0 x1 x2 x3 x4 x5 x6 x7 x8 x9 x10 l i s).2.2.2 = 0) : jisB x0 x1 x2 x3 x4 x5 x6 x7 x8 x9 x10 l i = true ∧ 0 ≤ s ∧ s < 40 ∧ jisB x0 x1 x2 x3 x4 x5 x6 x7 x8 x9 x10 (leaveR x0 x1 x2 x3 x4 x5 x6 x7 x8 x9 x10 l i s).1 (leaveR x0 x1 x2 x3 x4 x5 x6 x7 x8 x9 x10 l i s).2.1 = true ∧ ((leaveR x0 x1 x2 x3 x4 x5 x6 x7 x8 x9 x10 l i s).2.2.1 = 0 → i ≠ 0 ∧ (leaveR x0 x1 x2 x3 x4 x5 x6 x7 x8 x9 x10 l i s).2.1 = 0 ∧ (leaveR x0 x1 x2 x3 x4 x5 x6 x7 x8 x9 x10 l i s).1 = l) ∧ ((leaveR x0 x1 x2 x3 x4 x5 x6 x7 x8 x9 x10 l i s).2.2.1 ≠ 0 → (leaveR x0 x1 x2 x3 x4 x5 x6 x7 x8 x9 x10 l i s).1 = l ∧ (leaveR x0 x1 x2 x3 x4 x5 x6 x7 x8 x9 x10 l i s).2.1 = i) := by
  unfold leaveR at h ⊢
  rcases coversR_cases x0 x1 x2 x3 x4 x5 x6 x7 x8 x9 x10 s with hc | ⟨hc2, hs, hs2⟩
  · rw [hc, if_neg (by simp)] at h
    exact absurd h (by decide)
  · cases hJ : jisB x0 x1 x2 x3 x4 x5 x6 x7 x8 x9 x10 l i
    · rw [hJ, if_neg (by simp)] at h
      exact absurd h (by decide)
    · have hj := jisB_facts hJ
      rw [if_pos ⟨hc2, rfl⟩]
      cases hb : (coversR x0 x1 x2 x3 x4 x5 x6 x7 x8 x9 x10 s).1
      · rw [if_neg (by decide)]
        exact ⟨rfl, hs, hs2, hJ, fun h => absurd h (by simp), fun _ => ⟨rfl, rfl⟩⟩
      · rw [if_pos rfl]
        by_cases hi : i = 0
        · rw [if_pos hi]
          exact ⟨rfl, hs, hs2, hJ, fun h => absurd h (by simp), fun _ => ⟨rfl, rfl⟩⟩
        · rw [if_neg hi]
          by_cases hd : (x1 = 1 ∨ x1 = 2) ∧ ¬ (mn (i - 1) (toR x1 x2 x3 l) ≤ s ∧ s ≤ mx (i - 1) (toR x1 x2 x3 l))
          · rw [if_pos hd]
            exact ⟨rfl, hs, hs2, hJ, fun h => absurd h (by simp), fun _ => ⟨rfl, rfl⟩⟩
          · rw [if_neg hd]
            refine ⟨rfl, hs, hs2, ?_, fun _ => ⟨hi, rfl, rfl⟩, fun h => absurd rfl h⟩
            show jisB x0 x1 x2 x3 x4 x5 x6 x7 x8 x9 x10 l 0 = true
            unfold jisB suitsB
            rw [hj.1, decide_eq_true (show 0 ≤ l by omega), decide_eq_true (show l ≤ x9 by omega)]
            simp
theorem enter_code (s : Int) : (enterR x0 x1 x2 x3 x4 x5 x6 x7 x8 x9 x10 l i s).2.2.2 = if jisB x0 x1 x2 x3 x4 x5 x6 x7 x8 x9 x10 l i = true ∧ 0 ≤ s ∧ s < 40 then 0 else 1 := by
  unfold enterR
  rcases coversR_cases x0 x1 x2 x3 x4 x5 x6 x7 x8 x9 x10 s with hc | ⟨hc2, hs, hs2⟩
  · rw [hc, if_neg (by simp)]
    rw [if_neg]
    rintro ⟨h1, h2⟩
    rw [coversR_in x0 x1 x2 x3 x4 x5 x6 x7 x8 x9 x10 s (jisB_facts h1).1 h2] at hc
    exact absurd (Prod.mk.inj hc).2 (by decide)
  · cases hJ : jisB x0 x1 x2 x3 x4 x5 x6 x7 x8 x9 x10 l i
    · rw [if_neg (by simp), if_neg (by simp)]
    · rw [if_pos ⟨hc2, rfl⟩, if_pos (⟨rfl, hs, hs2⟩ : true = true ∧ 0 ≤ s ∧ s < 40)]
      split
      · split
        · split
          · rfl
          · split <;> rfl
        · rfl
      · rfl
theorem leave_code (s : Int) : (leaveR x0 x1 x2 x3 x4 x5 x6 x7 x8 x9 x10 l i s).2.2.2 = if jisB x0 x1 x2 x3 x4 x5 x6 x7 x8 x9 x10 l i = true ∧ 0 ≤ s ∧ s < 40 then 0 else 1 := by
  unfold leaveR
  rcases coversR_cases x0 x1 x2 x3 x4 x5 x6 x7 x8 x9 x10 s with hc | ⟨hc2, hs, hs2⟩
  · rw [hc, if_neg (by simp)]
    rw [if_neg]
    rintro ⟨h1, h2⟩
    rw [coversR_in x0 x1 x2 x3 x4 x5 x6 x7 x8 x9 x10 s (jisB_facts h1).1 h2] at hc
    exact absurd (Prod.mk.inj hc).2 (by decide)
  · cases hJ : jisB x0 x1 x2 x3 x4 x5 x6 x7 x8 x9 x10 l i
    · rw [if_neg (by simp), if_neg (by simp)]
    · rw [if_pos ⟨hc2, rfl⟩, if_pos (⟨rfl, hs, hs2⟩ : true = true ∧ 0 ≤ s ∧ s < 40)]
      split
      · split
        · rfl
        · split <;> rfl
      · rfl
end
end Go.Proofs.Ytdiijjdhofaodaa.Pure
end
section
namespace Go.Proofs.Ytdiijjdhofaodaa.G
open Go Go.RowKit Go.Proofs.Ytdiijjdhofaodaa.Pure Go.Proofs.YtdiijjdhofaodaaW.PrintWords Go.Proofs.YtdiijjdhofaodaaW.PrintLast Go.Proofs.YtdiijjdhofaodaaW.PrintMore
theorem quad_eq {p : Int × Int × Int × Int} {c d : Int} (hc : p.2.2.1 = c) (hd : p.2.2.2 = d) : p = (p.1, p.2.1, c, d) := by
  subst hc
  subst hd
  rfl
theorem pair_eq {p : Int × Int} {d : Int} (hd : p.2 = d) : p = (p.1, d) := by
  subst hd
  rfl
def passR (y0 y1 y2 y3 y4 y5 y6 y7 y8 y9 y10 l i : Int) (bk : Bool) (x0 x1 x2 x3 x4 x5 x6 x7 x8 x9 x10 day s : Int) (out : Bool) : Int × Int × Int × Int :=
  if jisB y0 y1 y2 y3 y4 y5 y6 y7 y8 y9 y10 l i = true ∧ lisB s = true then (if (sameR y0 y1 y2 y3 y4 y5 y6 y7 y8 y9 y10 l i bk x0 x1 x2 x3 x4 x5 x6 x7 x8 x9 x10).1 = 0 then (if (dayR x0 x1 x2 x3 x4 x5 x6 x7 x8 x9 x10 day out).1 = 0 then (if out = true then leaveR x0 x1 x2 x3 x4 x5 x6 x7 x8 x9 x10 l i s else enterR x0 x1 x2 x3 x4 x5 x6 x7 x8 x9 x10 l i s) else (l, i, (dayR x0 x1 x2 x3 x4 x5 x6 x7 x8 x9 x10 day out).1, 0)) else (l, i, (sameR y0 y1 y2 y3 y4 y5 y6 y7 y8 y9 y10 l i bk x0 x1 x2 x3 x4 x5 x6 x7 x8 x9 x10).1, 0)) else (0, 0, 0, 1)
theorem pass_any (y0 y1 y2 y3 y4 y5 y6 y7 y8 y9 y10 l i : Int) (bk : Bool) (x0 x1 x2 x3 x4 x5 x6 x7 x8 x9 x10 day s : Int) (out : Bool) (w : World) :
    Calls Try.prog 35 #[.agg #[.int .i64 y0, .int .i64 y1, .int .i64 y2, .int .i64 y3, .int .i64 y4, .int .i64 y5, .int .i64 y6, .int .i64 y7, .int .i64 y8, .int .i64 y9, .int .i64 y10, .int .i64 l, .int .i64 i, .bool bk], .agg #[.int .i64 x0, .int .i64 x1, .int .i64 x2, .int .i64 x3, .int .i64 x4, .int .i64 x5, .int .i64 x6, .int .i64 x7, .int .i64 x8, .int .i64 x9, .int .i64 x10], .int .i64 day, .int .i64 s, .bool out] w fun e w' => e = .returned (.tuple #[.agg #[.int .i64 (passR y0 y1 y2 y3 y4 y5 y6 y7 y8 y9 y10 l i bk x0 x1 x2 x3 x4 x5 x6 x7 x8 x9 x10 day s out).1, .int .i64 (passR y0 y1 y2 y3 y4 y5 y6 y7 y8 y9 y10 l i bk x0 x1 x2 x3 x4 x5 x6 x7 x8 x9 x10 day s out).2.1], .int .i64 (passR y0 y1 y2 y3 y4 y5 y6 y7 y8 y9 y10 l i bk x0 x1 x2 x3 x4 x5 x6 x7 x8 x9 x10 day s out).2.2.1, .int .i64 (passR y0 y1 y2 y3 y4 y5 y6 y7 y8 y9 y10 l i bk x0 x1 x2 x3 x4 x5 x6 x7 x8 x9 x10 day s out).2.2.2]) ∧ Below w.heap.size w w' := by
  cases hJ : jisB y0 y1 y2 y3 y4 y5 y6 y7 y8 y9 y10 l i
  · have e : passR y0 y1 y2 y3 y4 y5 y6 y7 y8 y9 y10 l i bk x0 x1 x2 x3 x4 x5 x6 x7 x8 x9 x10 day s out = (0, 0, 0, 1) := by rw [passR, hJ, if_neg (fun h => Bool.false_ne_true h.1)]
    rw [e]
    exact pass_bad y0 y1 y2 y3 y4 y5 y6 y7 y8 y9 y10 l i bk x0 x1 x2 x3 x4 x5 x6 x7 x8 x9 x10 day s out w hJ
  · cases hL : lisB s
    · have e : passR y0 y1 y2 y3 y4 y5 y6 y7 y8 y9 y10 l i bk x0 x1 x2 x3 x4 x5 x6 x7 x8 x9 x10 day s out = (0, 0, 0, 1) := by rw [passR, hL, if_neg (fun h => Bool.false_ne_true h.2)]
      rw [e]
      exact pass_off y0 y1 y2 y3 y4 y5 y6 y7 y8 y9 y10 l i bk x0 x1 x2 x3 x4 x5 x6 x7 x8 x9 x10 day s out w hJ hL
    · have e : passR y0 y1 y2 y3 y4 y5 y6 y7 y8 y9 y10 l i bk x0 x1 x2 x3 x4 x5 x6 x7 x8 x9 x10 day s out = (if (sameR y0 y1 y2 y3 y4 y5 y6 y7 y8 y9 y10 l i bk x0 x1 x2 x3 x4 x5 x6 x7 x8 x9 x10).1 = 0 then (if (dayR x0 x1 x2 x3 x4 x5 x6 x7 x8 x9 x10 day out).1 = 0 then (if out = true then leaveR x0 x1 x2 x3 x4 x5 x6 x7 x8 x9 x10 l i s else enterR x0 x1 x2 x3 x4 x5 x6 x7 x8 x9 x10 l i s) else (l, i, (dayR x0 x1 x2 x3 x4 x5 x6 x7 x8 x9 x10 day out).1, 0)) else (l, i, (sameR y0 y1 y2 y3 y4 y5 y6 y7 y8 y9 y10 l i bk x0 x1 x2 x3 x4 x5 x6 x7 x8 x9 x10).1, 0)) := by rw [passR, hJ, hL, if_pos ⟨rfl, rfl⟩]
      rw [e]
      have hs2 : (sameR y0 y1 y2 y3 y4 y5 y6 y7 y8 y9 y10 l i bk x0 x1 x2 x3 x4 x5 x6 x7 x8 x9 x10).2 = 0 := by
        unfold sameR
        rw [hJ, if_pos rfl]
        split
        · rfl
        · split <;> rfl
      by_cases hS : (sameR y0 y1 y2 y3 y4 y5 y6 y7 y8 y9 y10 l i bk x0 x1 x2 x3 x4 x5 x6 x7 x8 x9 x10).1 = 0
      · rw [if_pos hS]
        have hS' : sameR y0 y1 y2 y3 y4 y5 y6 y7 y8 y9 y10 l i bk x0 x1 x2 x3 x4 x5 x6 x7 x8 x9 x10 = (0, 0) := Prod.ext hS hs2
        have hT : bk = false ∧ sameT y0 y1 y2 y3 y4 y5 y6 y7 y8 y9 y10 x0 x1 x2 x3 x4 x5 x6 x7 x8 x9 x10 = true := by
          unfold sameR at hS
          rw [hJ, if_pos rfl] at hS
          cases bk
          · refine ⟨rfl, ?_⟩
            cases h : sameT y0 y1 y2 y3 y4 y5 y6 y7 y8 y9 y10 x0 x1 x2 x3 x4 x5 x6 x7 x8 x9 x10
            · rw [h, if_neg (by decide), if_neg (by decide)] at hS
              exact absurd hS (by decide)
            · rfl
          · rw [if_pos rfl] at hS
            exact absurd hS (by decide)
        obtain ⟨rfl, hT⟩ := hT
        obtain ⟨rfl, rfl, rfl, rfl, rfl, rfl, rfl, rfl, rfl, rfl, rfl⟩ := sameT_eq hT
        have hI := (jisB_facts hJ).1
        have hst : 0 ≤ s ∧ s < 40 := by simpa [lisB] using hL
        have hd2 : (dayR x0 x1 x2 x3 x4 x5 x6 x7 x8 x9 x10 day out).2 = 0 := by
          unfold dayR
          rw [hI, if_pos rfl]
          split
          · rfl
          · split
            · rfl
            · split <;> rfl
        by_cases hD : (dayR x0 x1 x2 x3 x4 x5 x6 x7 x8 x9 x10 day out).1 = 0
        · rw [if_pos hD]
          have hD' : dayR x0 x1 x2 x3 x4 x5 x6 x7 x8 x9 x10 day out = (0, 0) := Prod.ext hD hd2
          cases out
          · rw [if_neg (by decide)]
            have hc : (enterR x0 x1 x2 x3 x4 x5 x6 x7 x8 x9 x10 l i s).2.2.2 = 0 := by rw [enter_code, if_pos ⟨hJ, hst⟩]
            by_cases hr : (enterR x0 x1 x2 x3 x4 x5 x6 x7 x8 x9 x10 l i s).2.2.1 = 0
            · rw [hr, hc]
              exact pass_enter_ok x0 x1 x2 x3 x4 x5 x6 x7 x8 x9 x10 l i _ x0 x1 x2 x3 x4 x5 x6 x7 x8 x9 x10 day s w (enterR x0 x1 x2 x3 x4 x5 x6 x7 x8 x9 x10 l i s).1 (enterR x0 x1 x2 x3 x4 x5 x6 x7 x8 x9 x10 l i s).2.1 hJ hL hS' hD' (quad_eq hr hc) (by omega)
            · rw [hc]
              exact pass_enter_no x0 x1 x2 x3 x4 x5 x6 x7 x8 x9 x10 l i _ x0 x1 x2 x3 x4 x5 x6 x7 x8 x9 x10 day s w (enterR x0 x1 x2 x3 x4 x5 x6 x7 x8 x9 x10 l i s).1 (enterR x0 x1 x2 x3 x4 x5 x6 x7 x8 x9 x10 l i s).2.1 (enterR x0 x1 x2 x3 x4 x5 x6 x7 x8 x9 x10 l i s).2.2.1 hJ hL hS' hD' (quad_eq rfl hc) (by omega) hr
          · rw [if_pos rfl]
            have hc : (leaveR x0 x1 x2 x3 x4 x5 x6 x7 x8 x9 x10 l i s).2.2.2 = 0 := by rw [leave_code, if_pos ⟨hJ, hst⟩]
            by_cases hr : (leaveR x0 x1 x2 x3 x4 x5 x6 x7 x8 x9 x10 l i s).2.2.1 = 0
            · rw [hr, hc]
              exact pass_leave_ok x0 x1 x2 x3 x4 x5 x6 x7 x8 x9 x10 l i _ x0 x1 x2 x3 x4 x5 x6 x7 x8 x9 x10 day s w (leaveR x0 x1 x2 x3 x4 x5 x6 x7 x8 x9 x10 l i s).1 (leaveR x0 x1 x2 x3 x4 x5 x6 x7 x8 x9 x10 l i s).2.1 hJ hL hS' hD' (quad_eq hr hc) (by omega)
            · rw [hc]
              exact pass_leave_no x0 x1 x2 x3 x4 x5 x6 x7 x8 x9 x10 l i _ x0 x1 x2 x3 x4 x5 x6 x7 x8 x9 x10 day s w (leaveR x0 x1 x2 x3 x4 x5 x6 x7 x8 x9 x10 l i s).1 (leaveR x0 x1 x2 x3 x4 x5 x6 x7 x8 x9 x10 l i s).2.1 (leaveR x0 x1 x2 x3 x4 x5 x6 x7 x8 x9 x10 l i s).2.2.1 hJ hL hS' hD' (quad_eq rfl hc) (by omega) hr
        · rw [if_neg hD]
          exact pass_day x0 x1 x2 x3 x4 x5 x6 x7 x8 x9 x10 l i _ x0 x1 x2 x3 x4 x5 x6 x7 x8 x9 x10 day s out w (dayR x0 x1 x2 x3 x4 x5 x6 x7 x8 x9 x10 day out).1 hJ hL hS' (pair_eq hd2) hD
      · rw [if_neg hS]
        exact pass_same y0 y1 y2 y3 y4 y5 y6 y7 y8 y9 y10 l i bk x0 x1 x2 x3 x4 x5 x6 x7 x8 x9 x10 day s out w (sameR y0 y1 y2 y3 y4 y5 y6 y7 y8 y9 y10 l i bk x0 x1 x2 x3 x4 x5 x6 x7 x8 x9 x10).1 hJ hL (pair_eq hs2) hS
end Go.Proofs.Ytdiijjdhofaodaa.G
end
section
namespace Go.Proofs.Ytdiijjdhofaodaa.PL
open Go.RowKit Go.Proofs.YtdiijjdhofaodaaW.PrintWords Go.Proofs.YtdiijjdhofaodaaW.PrintLast Go.Proofs.YtdiijjdhofaodaaW.PrintMore
attribute [local go_sem] max2_int min2_int max_two min_two max_three min_three max_four min_four   -- for this text's walks alone
set_option linter.unusedVariables false
set_option linter.unusedSimpArgs false
attribute [local go_sem high] eqA23
attribute [local go_sem high] eqA25

/-! ### rules_Pass: function 35 (a contract proved by hand) -/
def rules_Pass.f (a0_0 : Int) (a0_1 : Int) (a0_2 : Int) (a0_3 : Int) (a0_4 : Int) (a0_5 : Int) (a0_6 : Int) (a0_7 : Int) (a0_8 : Int) (a0_9 : Int) (a0_10 : Int) (a0_11 : Int) (a0_12 : Int) (a0_13 : Bool) (a1_0 : Int) (a1_1 : Int) (a1_2 : Int) (a1_3 : Int) (a1_4 : Int) (a1_5 : Int) (a1_6 : Int) (a1_7 : Int) (a1_8 : Int) (a1_9 : Int) (a1_10 : Int) (a2 a3 : Int) (a4 : Bool) : Option (Int × Int × Int × Int) := some (G.passR a0_0 a0_1 a0_2 a0_3 a0_4 a0_5 a0_6 a0_7 a0_8 a0_9 a0_10 a0_11 a0_12 a0_13 a1_0 a1_1 a1_2 a1_3 a1_4 a1_5 a1_6 a1_7 a1_8 a1_9 a1_10 a2 a3 a4)
theorem rules_Pass.calls (a0_0 : Int) (a0_1 : Int) (a0_2 : Int) (a0_3 : Int) (a0_4 : Int) (a0_5 : Int) (a0_6 : Int) (a0_7 : Int) (a0_8 : Int) (a0_9 : Int) (a0_10 : Int) (a0_11 : Int) (a0_12 : Int) (a0_13 : Bool) (a1_0 : Int) (a1_1 : Int) (a1_2 : Int) (a1_3 : Int) (a1_4 : Int) (a1_5 : Int) (a1_6 : Int) (a1_7 : Int) (a1_8 : Int) (a1_9 : Int) (a1_10 : Int) (a2 a3 : Int) (a4 : Bool) (r1 r2 r3 r4 : Int) (w : World) (h : rules_Pass.f a0_0 a0_1 a0_2 a0_3 a0_4 a0_5 a0_6 a0_7 a0_8 a0_9 a0_10 a0_11 a0_12 a0_13 a1_0 a1_1 a1_2 a1_3 a1_4 a1_5 a1_6 a1_7 a1_8 a1_9 a1_10 a2 a3 a4 = some (r1, r2, r3, r4)) : Calls Try.prog 35 #[.agg #[.int .i64 a0_0, .int .i64 a0_1, .int .i64 a0_2, .int .i64 a0_3, .int .i64 a0_4, .int .i64 a0_5, .int .i64 a0_6, .int .i64 a0_7, .int .i64 a0_8, .int .i64 a0_9, .int .i64 a0_10, .int .i64 a0_11, .int .i64 a0_12, .bool a0_13], .agg #[.int .i64 a1_0, .int .i64 a1_1, .int .i64 a1_2, .int .i64 a1_3, .int .i64 a1_4, .int .i64 a1_5, .int .i64 a1_6, .int .i64 a1_7, .int .i64 a1_8, .int .i64 a1_9, .int .i64 a1_10], .int .i64 a2, .int .i64 a3, .bool a4] w fun e w' => e = .returned (.tuple #[.agg #[.int .i64 r1, .int .i64 r2], .int .i64 r3, .int .i64 r4]) ∧ Below w.heap.size w w' := by
  unfold rules_Pass.f at h
  rw [Option.some.injEq] at h
  have hc := G.pass_any a0_0 a0_1 a0_2 a0_3 a0_4 a0_5 a0_6 a0_7 a0_8 a0_9 a0_10 a0_11 a0_12 a0_13 a1_0 a1_1 a1_2 a1_3 a1_4 a1_5 a1_6 a1_7 a1_8 a1_9 a1_10 a2 a3 a4 w
  rw [h] at hc
  exact hc

/-! ### rules_Same: function 38 (a contract proved by hand) -/
def rules_Same.f (a0_0 : Int) (a0_1 : Int) (a0_2 : Int) (a0_3 : Int) (a0_4 : Int) (a0_5 : Int) (a0_6 : Int) (a0_7 : Int) (a0_8 : Int) (a0_9 : Int) (a0_10 : Int) (a0_11 : Int) (a0_12 : Int) (a0_13 : Bool) (a1_0 : Int) (a1_1 : Int) (a1_2 : Int) (a1_3 : Int) (a1_4 : Int) (a1_5 : Int) (a1_6 : Int) (a1_7 : Int) (a1_8 : Int) (a1_9 : Int) (a1_10 : Int) : Option (Int × Int) := some (G.sameR a0_0 a0_1 a0_2 a0_3 a0_4 a0_5 a0_6 a0_7 a0_8 a0_9 a0_10 a0_11 a0_12 a0_13 a1_0 a1_1 a1_2 a1_3 a1_4 a1_5 a1_6 a1_7 a1_8 a1_9 a1_10)
theorem rules_Same.calls (a0_0 : Int) (a0_1 : Int) (a0_2 : Int) (a0_3 : Int) (a0_4 : Int) (a0_5 : Int) (a0_6 : Int) (a0_7 : Int) (a0_8 : Int) (a0_9 : Int) (a0_10 : Int) (a0_11 : Int) (a0_12 : Int) (a0_13 : Bool) (a1_0 : Int) (a1_1 : Int) (a1_2 : Int) (a1_3 : Int) (a1_4 : Int) (a1_5 : Int) (a1_6 : Int) (a1_7 : Int) (a1_8 : Int) (a1_9 : Int) (a1_10 : Int) (r1 r2 : Int) (w : World) (h : rules_Same.f a0_0 a0_1 a0_2 a0_3 a0_4 a0_5 a0_6 a0_7 a0_8 a0_9 a0_10 a0_11 a0_12 a0_13 a1_0 a1_1 a1_2 a1_3 a1_4 a1_5 a1_6 a1_7 a1_8 a1_9 a1_10 = some (r1, r2)) : Calls Try.prog 38 #[.agg #[.int .i64 a0_0, .int .i64 a0_1, .int .i64 a0_2, .int .i64 a0_3, .int .i64 a0_4, .int .i64 a0_5, .int .i64 a0_6, .int .i64 a0_7, .int .i64 a0_8, .int .i64 a0_9, .int .i64 a0_10, .int .i64 a0_11, .int .i64 a0_12, .bool a0_13], .agg #[.int .i64 a1_0, .int .i64 a1_1, .int .i64 a1_2, .int .i64 a1_3, .int .i64 a1_4, .int .i64 a1_5, .int .i64 a1_6, .int .i64 a1_7, .int .i64 a1_8, .int .i64 a1_9, .int .i64 a1_10]] w fun e w' => e = .returned (.tuple #[.int .i64 r1, .int .i64 r2]) ∧ Below w.heap.size w w' := by
  unfold rules_Same.f at h
  rw [Option.some.injEq] at h
  have hc := G.same_any a0_0 a0_1 a0_2 a0_3 a0_4 a0_5 a0_6 a0_7 a0_8 a0_9 a0_10 a0_11 a0_12 a0_13 a1_0 a1_1 a1_2 a1_3 a1_4 a1_5 a1_6 a1_7 a1_8 a1_9 a1_10 w
  rw [h] at hc
  exact hc

/-! ### rules_Day: function 40 (a contract proved by hand) -/
def rules_Day.f (a0_0 : Int) (a0_1 : Int) (a0_2 : Int) (a0_3 : Int) (a0_4 : Int) (a0_5 : Int) (a0_6 : Int) (a0_7 : Int) (a0_8 : Int) (a0_9 : Int) (a0_10 : Int) (a1 : Int) (a2 : Bool) : Option (Int × Int) := some (G.dayR a0_0 a0_1 a0_2 a0_3 a0_4 a0_5 a0_6 a0_7 a0_8 a0_9 a0_10 a1 a2)
theorem rules_Day.calls (a0_0 : Int) (a0_1 : Int) (a0_2 : Int) (a0_3 : Int) (a0_4 : Int) (a0_5 : Int) (a0_6 : Int) (a0_7 : Int) (a0_8 : Int) (a0_9 : Int) (a0_10 : Int) (a1 : Int) (a2 : Bool) (r1 r2 : Int) (w : World) (h : rules_Day.f a0_0 a0_1 a0_2 a0_3 a0_4 a0_5 a0_6 a0_7 a0_8 a0_9 a0_10 a1 a2 = some (r1, r2)) : Calls Try.prog 40 #[.agg #[.int .i64 a0_0, .int .i64 a0_1, .int .i64 a0_2, .int .i64 a0_3, .int .i64 a0_4, .int .i64 a0_5, .int .i64 a0_6, .int .i64 a0_7, .int .i64 a0_8, .int .i64 a0_9, .int .i64 a0_10], .int .i64 a1, .bool a2] w fun e w' => e = .returned (.tuple #[.int .i64 r1, .int .i64 r2]) ∧ Below w.heap.size w w' := by
  unfold rules_Day.f at h
  rw [Option.some.injEq] at h
  have hc := G.day_any a0_0 a0_1 a0_2 a0_3 a0_4 a0_5 a0_6 a0_7 a0_8 a0_9 a0_10 a1 a2 w
  rw [h] at hc
  exact hc

/-! ### ticket_Last: function 25 (a contract proved by hand) -/
def ticket_Last.f (a0_0 : Int) (a0_1 : Int) (a0_2 : Int) (a0_3 : Int) (a0_4 : Int) (a0_5 : Int) (a0_6 : Int) (a0_7 : Int) (a0_8 : Int) (a0_9 : Int) (a0_10 : Int) : Option (Int × Int) := some (G.lastR a0_0 a0_1 a0_2 a0_3 a0_4 a0_5 a0_6 a0_7 a0_8 a0_9 a0_10)
theorem ticket_Last.calls (a0_0 : Int) (a0_1 : Int) (a0_2 : Int) (a0_3 : Int) (a0_4 : Int) (a0_5 : Int) (a0_6 : Int) (a0_7 : Int) (a0_8 : Int) (a0_9 : Int) (a0_10 : Int) (r1 r2 : Int) (w : World) (h : ticket_Last.f a0_0 a0_1 a0_2 a0_3 a0_4 a0_5 a0_6 a0_7 a0_8 a0_9 a0_10 = some (r1, r2)) : Calls Try.prog 25 #[.agg #[.int .i64 a0_0, .int .i64 a0_1, .int .i64 a0_2, .int .i64 a0_3, .int .i64 a0_4, .int .i64 a0_5, .int .i64 a0_6, .int .i64 a0_7, .int .i64 a0_8, .int .i64 a0_9, .int .i64 a0_10]] w fun e w' => e = .returned (.tuple #[.int .i64 r1, .int .i64 r2]) ∧ Below w.heap.size w w' := by
  unfold ticket_Last.f at h
  rw [Option.some.injEq] at h
  have hc := G.last_any a0_0 a0_1 a0_2 a0_3 a0_4 a0_5 a0_6 a0_7 a0_8 a0_9 a0_10 w
  rw [h] at hc
  exact hc

/-! ### ledger_Is: function 42 (a contract proved by hand) -/
def ledger_Is.f (a0_0 : Int) (a0_1 : Int) (a0_2 : Int) (a0_3 : Int) (a0_4 : Int) (a0_5 : Int) (a0_6 : Int) (a0_7 : Int) (a0_8 : Int) (a0_9 : Int) (a0_10 : Int) (a0_11 : Int) (a0_12 : Int) (a0_13 : Bool) : Option (Bool) := some (G.jisB a0_0 a0_1 a0_2 a0_3 a0_4 a0_5 a0_6 a0_7 a0_8 a0_9 a0_10 a0_11 a0_12)
theorem ledger_Is.calls (a0_0 : Int) (a0_1 : Int) (a0_2 : Int) (a0_3 : Int) (a0_4 : Int) (a0_5 : Int) (a0_6 : Int) (a0_7 : Int) (a0_8 : Int) (a0_9 : Int) (a0_10 : Int) (a0_11 : Int) (a0_12 : Int) (a0_13 : Bool) (r : Bool) (w : World) (h : ledger_Is.f a0_0 a0_1 a0_2 a0_3 a0_4 a0_5 a0_6 a0_7 a0_8 a0_9 a0_10 a0_11 a0_12 a0_13 = some r) : Calls Try.prog 42 #[.agg #[.int .i64 a0_0, .int .i64 a0_1, .int .i64 a0_2, .int .i64 a0_3, .int .i64 a0_4, .int .i64 a0_5, .int .i64 a0_6, .int .i64 a0_7, .int .i64 a0_8, .int .i64 a0_9, .int .i64 a0_10, .int .i64 a0_11, .int .i64 a0_12, .bool a0_13]] w fun e w' => e = .returned (.bool r) ∧ Below w.heap.size w w' := by
  unfold ledger_Is.f at h
  rw [Option.some.injEq] at h
  have hc := G.lis_e a0_0 a0_1 a0_2 a0_3 a0_4 a0_5 a0_6 a0_7 a0_8 a0_9 a0_10 a0_11 a0_12 a0_13 w
  rw [h] at hc
  exact hc

end Go.Proofs.Ytdiijjdhofaodaa.PL
end
