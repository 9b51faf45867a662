/- What the functions that this claim reaches do and answer: printed words and walks, walks by hand and plain laws, packed together, each with its own remark; printed rows are by the kit's print program, turned by this session. Conditions: those that each theorem states. -/
import Derived.StillTailTactics
import Derived.Laws.MakeOwn
import Derived.OrdersIn
import Derived.Test.YtdiijjdhofaodaaKA0
section
namespace Go.Proofs.Ytdiijjdhofaodaa.G
open Go Go.RowKit Go.Proofs.YtdiijjdhofaodaaW.PrintWords Go.Proofs.YtdiijjdhofaodaaW.PrintLast Go.Proofs.YtdiijjdhofaodaaW.PrintMore
/-- What lies in the world behind the first call: the ticket, the journey, the result. -/
theorem j_facts {w w1 : World} {x0 x1 x2 x3 x4 x5 x6 x7 x8 x9 x10 l i : Int} (hb : Below (((w.alloc (.cells (tkA x0 x1 x2 x3 x4 x5 x6 x7 x8 x9 x10) 23)).alloc (.cells #[.int .i64 l, .int .i64 i] 25)).alloc (.cells #[.int .i64 0, .int .i64 0] 25)).heap.size (((w.alloc (.cells (tkA x0 x1 x2 x3 x4 x5 x6 x7 x8 x9 x10) 23)).alloc (.cells #[.int .i64 l, .int .i64 i] 25)).alloc (.cells #[.int .i64 0, .int .i64 0] 25)) w1) :
    Blk w1 w.heap.size (tkA x0 x1 x2 x3 x4 x5 x6 x7 x8 x9 x10) 23 ∧ Blk w1 (w.heap.size + 1) #[.int .i64 l, .int .i64 i] 25 ∧ Blk w1 (w.heap.size + 1 + 1) #[.int .i64 0, .int .i64 0] 25 ∧ Below w.heap.size w w1 := by
  refine ⟨Blk.below (((Blk.new w _ _).alloc _).alloc _) hb (by simp only [World.size_alloc]; omega), Blk.below (b := w.heap.size + 1) (Blk.alloc (by simpa using Blk.new (w.alloc (.cells (tkA x0 x1 x2 x3 x4 x5 x6 x7 x8 x9 x10) 23)) #[.int .i64 l, .int .i64 i] 25) _) hb (by simp only [World.size_alloc]; omega), Blk.below (b := w.heap.size + 1 + 1) (by simpa using Blk.new ((w.alloc (.cells (tkA x0 x1 x2 x3 x4 x5 x6 x7 x8 x9 x10) 23)).alloc (.cells #[.int .i64 l, .int .i64 i] 25)) #[.int .i64 0, .int .i64 0] 25) hb (by simp only [World.size_alloc]; omega), ?_⟩
  exact ((((Below.refl _ w).alloc (Nat.le_refl _) _).alloc (by simp) _).alloc (by simp only [World.size_alloc]; omega) _).trans (hb.mono (by simp only [World.size_alloc]; omega))
/-- The same behind one more call. -/
theorem j_more {w w1 w2 : World} {x0 x1 x2 x3 x4 x5 x6 x7 x8 x9 x10 l i : Int} {n : Nat} (h : Blk w1 n (tkA x0 x1 x2 x3 x4 x5 x6 x7 x8 x9 x10) 23 ∧ Blk w1 (n + 1) #[.int .i64 l, .int .i64 i] 25 ∧ Blk w1 (n + 1 + 1) #[.int .i64 0, .int .i64 0] 25 ∧ Below w.heap.size w w1) (hb : Below w1.heap.size w1 w2) :
    Blk w2 n (tkA x0 x1 x2 x3 x4 x5 x6 x7 x8 x9 x10) 23 ∧ Blk w2 (n + 1) #[.int .i64 l, .int .i64 i] 25 ∧ Blk w2 (n + 1 + 1) #[.int .i64 0, .int .i64 0] 25 ∧ Below w.heap.size w w2 :=
  ⟨h.1.below hb h.1.lt, h.2.1.below hb h.2.1.lt, h.2.2.1.below hb h.2.2.1.lt, h.2.2.2.trans (hb.mono h.2.2.2.size)⟩
/-- Behind the two stores of a result. -/
theorem j_put {w W : World} {n : Nat} {u v : Value} (a b : Value) (h : Blk W n #[u, v] 25) (hB : Below w.heap.size w W) (hn : w.heap.size ≤ n) : Blk ((W.setCell ⟨n, 0, none⟩ a).setCell ⟨n, 1, none⟩ b) n #[a, b] 25 ∧ Below w.heap.size w ((W.setCell ⟨n, 0, none⟩ a).setCell ⟨n, 1, none⟩ b) :=
  ⟨blk_put (blk_put h 0 a rfl) 1 b rfl, (hB.setCell (p := ⟨n, 0, none⟩) hn a).setCell (p := ⟨n, 1, none⟩) hn b⟩
/-! Which function a method of a rule is. -/
theorem meth_single_left (W : World) : Sem.run Try.prog (method 211 85 (.agg #[]) "gateline/journey.left") W = .ok (94, .agg #[]) W := by rfl
theorem meth_single_spend (W : World) : Sem.run Try.prog (method 211 85 (.agg #[]) "gateline/journey.spend") W = .ok (95, .agg #[]) W := by rfl
theorem meth_there_left (W : World) : Sem.run Try.prog (method 211 86 (.agg #[]) "gateline/journey.left") W = .ok (94, .agg #[]) W := by rfl
theorem meth_there_spend (W : World) : Sem.run Try.prog (method 211 86 (.agg #[]) "gateline/journey.spend") W = .ok (95, .agg #[]) W := by rfl
theorem meth_legs_left (W : World) : Sem.run Try.prog (method 211 83 (.agg #[]) "gateline/journey.left") W = .ok (94, .agg #[]) W := by rfl
theorem meth_legs_spend (W : World) : Sem.run Try.prog (method 211 83 (.agg #[]) "gateline/journey.spend") W = .ok (95, .agg #[]) W := by rfl
theorem meth_season_left (W : World) : Sem.run Try.prog (method 211 87 (.agg #[]) "gateline/journey.left") W = .ok (99, .agg #[]) W := by rfl
theorem meth_season_spend (W : World) : Sem.run Try.prog (method 211 87 (.agg #[]) "gateline/journey.spend") W = .ok (100, .agg #[]) W := by rfl
attribute [local go_sem] meth_single_left meth_single_spend meth_there_left meth_there_spend meth_legs_left meth_legs_spend meth_season_left meth_season_spend
set_option maxRecDepth 100000 in
set_option maxHeartbeats 1000000 in
theorem enter_off (x0 x1 x2 x3 x4 x5 x6 x7 x8 x9 x10 l i s : Int) (w : World) (hw : -9223372036854775808 ≤ s ∧ s ≤ 9223372036854775807) (hc : coversR x0 x1 x2 x3 x4 x5 x6 x7 x8 x9 x10 s = (false, 1)) :
    Calls Try.prog 15 #[.agg #[.int .i64 x0, .int .i64 x1, .int .i64 x2, .int .i64 x3, .int .i64 x4, .int .i64 x5, .int .i64 x6, .int .i64 x7, .int .i64 x8, .int .i64 x9, .int .i64 x10], .agg #[.int .i64 l, .int .i64 i], .int .i64 s] w fun e w' => e = .returned (.tuple #[.agg #[.int .i64 (0), .int .i64 (0)], .int .i64 0, .int .i64 1]) ∧ Below w.heap.size w w' := by
  have hk_ := True.intro
  go_enter Try.func15, Try.ntmps15
  go_wp2_with (first
    | (go_at_call 27; refine (covers_any _ _ _ _ _ _ _ _ _ _ _ _ _ hw).mono ?_; rintro e w1 ⟨rfl, hb⟩; rw [hc]; have F1 := j_facts hb; clear hb; obtain ⟨q0, q1, q2, q3, q4, q5, q6, q7, q8, q9, q10⟩ := F1.1.all; have p0 := F1.2.1.cell 0 _ rfl; have p1 := F1.2.1.cell 1 _ rfl; have r0 := F1.2.2.1.cell 0 _ rfl; have r1 := F1.2.2.1.cell 1 _ rfl; have f0 := F1.2.2.1.frozen 0; have f1 := F1.2.2.1.frozen 1)
    | (go_at_call 44; refine (of_any _ _).mono ?_; rintro e w' ⟨rfl, rfl⟩; (try rw [show ruleT x1 = 83 from hk_]))
    | (go_at_call 22; refine (jis_any _ _ _ _ _ _ _ _ _ _ _ _ _ _).mono ?_; rintro e w2 ⟨rfl, hb2⟩; rw [hJ]; clear q0 q1 q2 q3 q4 q5 q6 q7 q8 q9 q10 p0 p1 r0 r1 f0 f1; have F2 := j_more F1 hb2; clear hb2; obtain ⟨q0, q1, q2, q3, q4, q5, q6, q7, q8, q9, q10⟩ := F2.1.all; have p0 := F2.2.1.cell 0 _ rfl; have p1 := F2.2.1.cell 1 _ rfl; have r0 := F2.2.2.1.cell 0 _ rfl; have r1 := F2.2.2.1.cell 1 _ rfl; have f0 := F2.2.2.1.frozen 0; have f1 := F2.2.2.1.frozen 1)
    | go_in)
  show bodyPost _ _ _ Exit.ret _ (World.setCell (World.setCell ?W _ _) _ _)
  have g : Blk ?W (w.heap.size + 1 + 1) #[.int .i64 0, .int .i64 0] 25 ∧ Below w.heap.size w ?W := by
    constructor
    · with_reducible repeat (first | exact F1.2.2.1 | refine Blk.alloc ?_ _)
    · with_reducible repeat (first | exact F1.2.2.2 | refine below_alloc ?_ _)
  have x := j_put (.int .i64 (0)) (.int .i64 (0)) g.1 g.2 (by omega)
  have y0 := x.1.cell 0 _ rfl
  have y1 := x.1.cell 1 _ rfl
  refine bodyPost_ret (v := .tuple #[.agg #[.int .i64 (0), .int .i64 (0)], .int .i64 0, .int .i64 1]) (by simp [results, Try.results15, go_sem, y0, y1]) rfl ⟨rfl, x.2⟩
set_option maxRecDepth 100000 in
set_option maxHeartbeats 1000000 in
theorem enter_bad (x0 x1 x2 x3 x4 x5 x6 x7 x8 x9 x10 l i s : Int) (w : World) (hw : -9223372036854775808 ≤ s ∧ s ≤ 9223372036854775807) (b : Bool) (hc : coversR x0 x1 x2 x3 x4 x5 x6 x7 x8 x9 x10 s = (b, 0)) (hJ : jisB x0 x1 x2 x3 x4 x5 x6 x7 x8 x9 x10 l i = false) :
    Calls Try.prog 15 #[.agg #[.int .i64 x0, .int .i64 x1, .int .i64 x2, .int .i64 x3, .int .i64 x4, .int .i64 x5, .int .i64 x6, .int .i64 x7, .int .i64 x8, .int .i64 x9, .int .i64 x10], .agg #[.int .i64 l, .int .i64 i], .int .i64 s] w fun e w' => e = .returned (.tuple #[.agg #[.int .i64 (0), .int .i64 (0)], .int .i64 0, .int .i64 1]) ∧ Below w.heap.size w w' := by
  have hk_ := True.intro
  go_enter Try.func15, Try.ntmps15
  go_wp2_with (first
    | (go_at_call 27; refine (covers_any _ _ _ _ _ _ _ _ _ _ _ _ _ hw).mono ?_; rintro e w1 ⟨rfl, hb⟩; rw [hc]; have F1 := j_facts hb; clear hb; obtain ⟨q0, q1, q2, q3, q4, q5, q6, q7, q8, q9, q10⟩ := F1.1.all; have p0 := F1.2.1.cell 0 _ rfl; have p1 := F1.2.1.cell 1 _ rfl; have r0 := F1.2.2.1.cell 0 _ rfl; have r1 := F1.2.2.1.cell 1 _ rfl; have f0 := F1.2.2.1.frozen 0; have f1 := F1.2.2.1.frozen 1)
    | (go_at_call 44; refine (of_any _ _).mono ?_; rintro e w' ⟨rfl, rfl⟩; (try rw [show ruleT x1 = 83 from hk_]))
    | (go_at_call 22; refine (jis_any _ _ _ _ _ _ _ _ _ _ _ _ _ _).mono ?_; rintro e w2 ⟨rfl, hb2⟩; rw [hJ]; clear q0 q1 q2 q3 q4 q5 q6 q7 q8 q9 q10 p0 p1 r0 r1 f0 f1; have F2 := j_more F1 hb2; clear hb2; obtain ⟨q0, q1, q2, q3, q4, q5, q6, q7, q8, q9, q10⟩ := F2.1.all; have p0 := F2.2.1.cell 0 _ rfl; have p1 := F2.2.1.cell 1 _ rfl; have r0 := F2.2.2.1.cell 0 _ rfl; have r1 := F2.2.2.1.cell 1 _ rfl; have f0 := F2.2.2.1.frozen 0; have f1 := F2.2.2.1.frozen 1)
    | go_in)
  show bodyPost _ _ _ Exit.ret _ (World.setCell (World.setCell ?W _ _) _ _)
  have g : Blk ?W (w.heap.size + 1 + 1) #[.int .i64 0, .int .i64 0] 25 ∧ Below w.heap.size w ?W := by
    constructor
    · with_reducible repeat (first | exact F2.2.2.1 | refine Blk.alloc ?_ _)
    · with_reducible repeat (first | exact F2.2.2.2 | refine below_alloc ?_ _)
  have x := j_put (.int .i64 (0)) (.int .i64 (0)) g.1 g.2 (by omega)
  have y0 := x.1.cell 0 _ rfl
  have y1 := x.1.cell 1 _ rfl
  refine bodyPost_ret (v := .tuple #[.agg #[.int .i64 (0), .int .i64 (0)], .int .i64 0, .int .i64 1]) (by simp [results, Try.results15, go_sem, y0, y1]) rfl ⟨rfl, x.2⟩
set_option maxRecDepth 100000 in
set_option maxHeartbeats 1000000 in
theorem enter_place (x0 x1 x2 x3 x4 x5 x6 x7 x8 x9 x10 l i s : Int) (w : World) (hw : -9223372036854775808 ≤ s ∧ s ≤ 9223372036854775807) (hc : coversR x0 x1 x2 x3 x4 x5 x6 x7 x8 x9 x10 s = (false, 0)) (hJ : jisB x0 x1 x2 x3 x4 x5 x6 x7 x8 x9 x10 l i = true) :
    Calls Try.prog 15 #[.agg #[.int .i64 x0, .int .i64 x1, .int .i64 x2, .int .i64 x3, .int .i64 x4, .int .i64 x5, .int .i64 x6, .int .i64 x7, .int .i64 x8, .int .i64 x9, .int .i64 x10], .agg #[.int .i64 l, .int .i64 i], .int .i64 s] w fun e w' => e = .returned (.tuple #[.agg #[.int .i64 (l), .int .i64 (i)], .int .i64 9, .int .i64 0]) ∧ Below w.heap.size w w' := by
  have hk_ := True.intro
  go_enter Try.func15, Try.ntmps15
  go_wp2_with (first
    | (go_at_call 27; refine (covers_any _ _ _ _ _ _ _ _ _ _ _ _ _ hw).mono ?_; rintro e w1 ⟨rfl, hb⟩; rw [hc]; have F1 := j_facts hb; clear hb; obtain ⟨q0, q1, q2, q3, q4, q5, q6, q7, q8, q9, q10⟩ := F1.1.all; have p0 := F1.2.1.cell 0 _ rfl; have p1 := F1.2.1.cell 1 _ rfl; have r0 := F1.2.2.1.cell 0 _ rfl; have r1 := F1.2.2.1.cell 1 _ rfl; have f0 := F1.2.2.1.frozen 0; have f1 := F1.2.2.1.frozen 1)
    | (go_at_call 44; refine (of_any _ _).mono ?_; rintro e w' ⟨rfl, rfl⟩; (try rw [show ruleT x1 = 83 from hk_]))
    | (go_at_call 22; refine (jis_any _ _ _ _ _ _ _ _ _ _ _ _ _ _).mono ?_; rintro e w2 ⟨rfl, hb2⟩; rw [hJ]; clear q0 q1 q2 q3 q4 q5 q6 q7 q8 q9 q10 p0 p1 r0 r1 f0 f1; have F2 := j_more F1 hb2; clear hb2; obtain ⟨q0, q1, q2, q3, q4, q5, q6, q7, q8, q9, q10⟩ := F2.1.all; have p0 := F2.2.1.cell 0 _ rfl; have p1 := F2.2.1.cell 1 _ rfl; have r0 := F2.2.2.1.cell 0 _ rfl; have r1 := F2.2.2.1.cell 1 _ rfl; have f0 := F2.2.2.1.frozen 0; have f1 := F2.2.2.1.frozen 1)
    | go_in)
  show bodyPost _ _ _ Exit.ret _ (World.setCell (World.setCell ?W _ _) _ _)
  have g : Blk ?W (w.heap.size + 1 + 1) #[.int .i64 0, .int .i64 0] 25 ∧ Below w.heap.size w ?W := by
    constructor
    · with_reducible repeat (first | exact F2.2.2.1 | refine Blk.alloc ?_ _)
    · with_reducible repeat (first | exact F2.2.2.2 | refine below_alloc ?_ _)
  have x := j_put (.int .i64 (l)) (.int .i64 (i)) g.1 g.2 (by omega)
  have y0 := x.1.cell 0 _ rfl
  have y1 := x.1.cell 1 _ rfl
  refine bodyPost_ret (v := .tuple #[.agg #[.int .i64 (l), .int .i64 (i)], .int .i64 9, .int .i64 0]) (by simp [results, Try.results15, go_sem, y0, y1]) rfl ⟨rfl, x.2⟩
set_option maxRecDepth 100000 in
set_option maxHeartbeats 1000000 in
theorem enter_inside (x0 x1 x2 x3 x4 x5 x6 x7 x8 x9 x10 l i s : Int) (w : World) (hw : -9223372036854775808 ≤ s ∧ s ≤ 9223372036854775807) (hc : coversR x0 x1 x2 x3 x4 x5 x6 x7 x8 x9 x10 s = (true, 0)) (hJ : jisB x0 x1 x2 x3 x4 x5 x6 x7 x8 x9 x10 l i = true) (hi : i ≠ 0) :
    Calls Try.prog 15 #[.agg #[.int .i64 x0, .int .i64 x1, .int .i64 x2, .int .i64 x3, .int .i64 x4, .int .i64 x5, .int .i64 x6, .int .i64 x7, .int .i64 x8, .int .i64 x9, .int .i64 x10], .agg #[.int .i64 l, .int .i64 i], .int .i64 s] w fun e w' => e = .returned (.tuple #[.agg #[.int .i64 (l), .int .i64 (i)], .int .i64 11, .int .i64 0]) ∧ Below w.heap.size w w' := by
  have hk_ := True.intro
  have hi' : (i == 0) = false := beq_eq_false_iff_ne.2 hi
  have hi2 : (i != 0) = true := by simp [hi]
  go_enter Try.func15, Try.ntmps15
  go_wp2_with (first
    | (go_at_call 27; refine (covers_any _ _ _ _ _ _ _ _ _ _ _ _ _ hw).mono ?_; rintro e w1 ⟨rfl, hb⟩; rw [hc]; have F1 := j_facts hb; clear hb; obtain ⟨q0, q1, q2, q3, q4, q5, q6, q7, q8, q9, q10⟩ := F1.1.all; have p0 := F1.2.1.cell 0 _ rfl; have p1 := F1.2.1.cell 1 _ rfl; have r0 := F1.2.2.1.cell 0 _ rfl; have r1 := F1.2.2.1.cell 1 _ rfl; have f0 := F1.2.2.1.frozen 0; have f1 := F1.2.2.1.frozen 1)
    | (go_at_call 44; refine (of_any _ _).mono ?_; rintro e w' ⟨rfl, rfl⟩; (try rw [show ruleT x1 = 83 from hk_]))
    | (go_at_call 22; refine (jis_any _ _ _ _ _ _ _ _ _ _ _ _ _ _).mono ?_; rintro e w2 ⟨rfl, hb2⟩; rw [hJ]; clear q0 q1 q2 q3 q4 q5 q6 q7 q8 q9 q10 p0 p1 r0 r1 f0 f1; have F2 := j_more F1 hb2; clear hb2; obtain ⟨q0, q1, q2, q3, q4, q5, q6, q7, q8, q9, q10⟩ := F2.1.all; have p0 := F2.2.1.cell 0 _ rfl; have p1 := F2.2.1.cell 1 _ rfl; have r0 := F2.2.2.1.cell 0 _ rfl; have r1 := F2.2.2.1.cell 1 _ rfl; have f0 := F2.2.2.1.frozen 0; have f1 := F2.2.2.1.frozen 1)
    | go_in)
  show bodyPost _ _ _ Exit.ret _ (World.setCell (World.setCell ?W _ _) _ _)
  have g : Blk ?W (w.heap.size + 1 + 1) #[.int .i64 0, .int .i64 0] 25 ∧ Below w.heap.size w ?W := by
    constructor
    · with_reducible repeat (first | exact F2.2.2.1 | refine Blk.alloc ?_ _)
    · with_reducible repeat (first | exact F2.2.2.2 | refine below_alloc ?_ _)
  have x := j_put (.int .i64 (l)) (.int .i64 (i)) g.1 g.2 (by omega)
  have y0 := x.1.cell 0 _ rfl
  have y1 := x.1.cell 1 _ rfl
  refine bodyPost_ret (v := .tuple #[.agg #[.int .i64 (l), .int .i64 (i)], .int .i64 11, .int .i64 0]) (by simp [results, Try.results15, go_sem, y0, y1]) rfl ⟨rfl, x.2⟩
set_option maxRecDepth 100000 in
set_option maxHeartbeats 1000000 in
theorem enter_used_single (x0 x2 x3 x4 x5 x6 x7 x8 x9 x10 l s : Int) (w : World) (hw : -9223372036854775808 ≤ s ∧ s ≤ 9223372036854775807) (hc : coversR x0 1 x2 x3 x4 x5 x6 x7 x8 x9 x10 s = (true, 0)) (hJ : jisB x0 1 x2 x3 x4 x5 x6 x7 x8 x9 x10 l 0 = true) (hl : l ≤ 0)  :
    Calls Try.prog 15 #[.agg #[.int .i64 x0, .int .i64 1, .int .i64 x2, .int .i64 x3, .int .i64 x4, .int .i64 x5, .int .i64 x6, .int .i64 x7, .int .i64 x8, .int .i64 x9, .int .i64 x10], .agg #[.int .i64 l, .int .i64 0], .int .i64 s] w fun e w' => e = .returned (.tuple #[.agg #[.int .i64 (l), .int .i64 (0)], .int .i64 10, .int .i64 0]) ∧ Below w.heap.size w w' := by
  have hk_ : ruleT 1 = 85 := rfl
  have hd : decide (0 < l) = false := decide_eq_false (by omega)
  go_enter Try.func15, Try.ntmps15
  go_wp2_with (first
    | (go_at_call 27; refine (covers_any _ _ _ _ _ _ _ _ _ _ _ _ _ hw).mono ?_; rintro e w1 ⟨rfl, hb⟩; rw [hc]; have F1 := j_facts hb; clear hb; obtain ⟨q0, q1, q2, q3, q4, q5, q6, q7, q8, q9, q10⟩ := F1.1.all; have p0 := F1.2.1.cell 0 _ rfl; have p1 := F1.2.1.cell 1 _ rfl; have r0 := F1.2.2.1.cell 0 _ rfl; have r1 := F1.2.2.1.cell 1 _ rfl; have f0 := F1.2.2.1.frozen 0; have f1 := F1.2.2.1.frozen 1)
    | (go_at_call 44; refine (of_any _ _).mono ?_; rintro e w' ⟨rfl, rfl⟩; (try rw [show ruleT 1 = 85 from hk_]))
    | (go_at_call 22; refine (jis_any _ _ _ _ _ _ _ _ _ _ _ _ _ _).mono ?_; rintro e w2 ⟨rfl, hb2⟩; rw [hJ]; clear q0 q1 q2 q3 q4 q5 q6 q7 q8 q9 q10 p0 p1 r0 r1 f0 f1; have F2 := j_more F1 hb2; clear hb2; obtain ⟨q0, q1, q2, q3, q4, q5, q6, q7, q8, q9, q10⟩ := F2.1.all; have p0 := F2.2.1.cell 0 _ rfl; have p1 := F2.2.1.cell 1 _ rfl; have r0 := F2.2.2.1.cell 0 _ rfl; have r1 := F2.2.2.1.cell 1 _ rfl; have f0 := F2.2.2.1.frozen 0; have f1 := F2.2.2.1.frozen 1; have p01 : ∀ o0, (w2.alloc o0).cell? ⟨w.heap.size + 1, 0, none⟩ = some (.int .i64 l) := fun o0 => (F2.2.1.alloc o0).cell 0 _ rfl; have p11 : ∀ o0, (w2.alloc o0).cell? ⟨w.heap.size + 1, 1, none⟩ = some (.int .i64 0) := fun o0 => (F2.2.1.alloc o0).cell 1 _ rfl; have r01 : ∀ o0, (w2.alloc o0).cell? ⟨w.heap.size + 1 + 1, 0, none⟩ = some (.int .i64 0) := fun o0 => (F2.2.2.1.alloc o0).cell 0 _ rfl; have r11 : ∀ o0, (w2.alloc o0).cell? ⟨w.heap.size + 1 + 1, 1, none⟩ = some (.int .i64 0) := fun o0 => (F2.2.2.1.alloc o0).cell 1 _ rfl; have f01 : ∀ o0, (w2.alloc o0).frozen? ⟨w.heap.size + 1 + 1, 0, none⟩ = false := fun o0 => (F2.2.2.1.alloc o0).frozen 0; have f11 : ∀ o0, (w2.alloc o0).frozen? ⟨w.heap.size + 1 + 1, 1, none⟩ = false := fun o0 => (F2.2.2.1.alloc o0).frozen 1; have p02 : ∀ o0 o1, ((w2.alloc o0).alloc o1).cell? ⟨w.heap.size + 1, 0, none⟩ = some (.int .i64 l) := fun o0 o1 => ((F2.2.1.alloc o0).alloc o1).cell 0 _ rfl; have p12 : ∀ o0 o1, ((w2.alloc o0).alloc o1).cell? ⟨w.heap.size + 1, 1, none⟩ = some (.int .i64 0) := fun o0 o1 => ((F2.2.1.alloc o0).alloc o1).cell 1 _ rfl; have r02 : ∀ o0 o1, ((w2.alloc o0).alloc o1).cell? ⟨w.heap.size + 1 + 1, 0, none⟩ = some (.int .i64 0) := fun o0 o1 => ((F2.2.2.1.alloc o0).alloc o1).cell 0 _ rfl; have r12 : ∀ o0 o1, ((w2.alloc o0).alloc o1).cell? ⟨w.heap.size + 1 + 1, 1, none⟩ = some (.int .i64 0) := fun o0 o1 => ((F2.2.2.1.alloc o0).alloc o1).cell 1 _ rfl; have f02 : ∀ o0 o1, ((w2.alloc o0).alloc o1).frozen? ⟨w.heap.size + 1 + 1, 0, none⟩ = false := fun o0 o1 => ((F2.2.2.1.alloc o0).alloc o1).frozen 0; have f12 : ∀ o0 o1, ((w2.alloc o0).alloc o1).frozen? ⟨w.heap.size + 1 + 1, 1, none⟩ = false := fun o0 o1 => ((F2.2.2.1.alloc o0).alloc o1).frozen 1)
    | go_in)
  show bodyPost _ _ _ Exit.ret _ (World.setCell (World.setCell ?W _ _) _ _)
  have g : Blk ?W (w.heap.size + 1 + 1) #[.int .i64 0, .int .i64 0] 25 ∧ Below w.heap.size w ?W := by
    constructor
    · with_reducible repeat (first | exact F2.2.2.1 | refine Blk.alloc ?_ _)
    · with_reducible repeat (first | exact F2.2.2.2 | refine below_alloc ?_ _)
  have x := j_put (.int .i64 (l)) (.int .i64 (0)) g.1 g.2 (by omega)
  have y0 := x.1.cell 0 _ rfl
  have y1 := x.1.cell 1 _ rfl
  refine bodyPost_ret (v := .tuple #[.agg #[.int .i64 (l), .int .i64 (0)], .int .i64 10, .int .i64 0]) (by simp [results, Try.results15, go_sem, y0, y1]) rfl ⟨rfl, x.2⟩
set_option maxRecDepth 100000 in
set_option maxHeartbeats 1000000 in
theorem enter_ok_single (x0 x2 x3 x4 x5 x6 x7 x8 x9 x10 l s : Int) (w : World) (hw : -9223372036854775808 ≤ s ∧ s ≤ 9223372036854775807) (hc : coversR x0 1 x2 x3 x4 x5 x6 x7 x8 x9 x10 s = (true, 0)) (hJ : jisB x0 1 x2 x3 x4 x5 x6 x7 x8 x9 x10 l 0 = true) (hl : 0 < l) (hl2 : l ≤ 9223372036854775807) (hs : 0 ≤ s) (hs2 : s < 40)  :
    Calls Try.prog 15 #[.agg #[.int .i64 x0, .int .i64 1, .int .i64 x2, .int .i64 x3, .int .i64 x4, .int .i64 x5, .int .i64 x6, .int .i64 x7, .int .i64 x8, .int .i64 x9, .int .i64 x10], .agg #[.int .i64 l, .int .i64 0], .int .i64 s] w fun e w' => e = .returned (.tuple #[.agg #[.int .i64 (l - 1), .int .i64 (s + 1)], .int .i64 0, .int .i64 0]) ∧ Below w.heap.size w w' := by
  have hk_ : ruleT 1 = 85 := rfl
  have e1 : wrap64 (l - 1) = l - 1 := tw64 (by omega) (by omega)
  have e2 : wrap64 (s + 1) = s + 1 := tw64 (by omega) (by omega)
  have hd : decide (0 < l) = true := decide_eq_true hl
  go_enter Try.func15, Try.ntmps15
  go_wp2_with (first
    | (go_at_call 27; refine (covers_any _ _ _ _ _ _ _ _ _ _ _ _ _ hw).mono ?_; rintro e w1 ⟨rfl, hb⟩; rw [hc]; have F1 := j_facts hb; clear hb; obtain ⟨q0, q1, q2, q3, q4, q5, q6, q7, q8, q9, q10⟩ := F1.1.all; have p0 := F1.2.1.cell 0 _ rfl; have p1 := F1.2.1.cell 1 _ rfl; have r0 := F1.2.2.1.cell 0 _ rfl; have r1 := F1.2.2.1.cell 1 _ rfl; have f0 := F1.2.2.1.frozen 0; have f1 := F1.2.2.1.frozen 1)
    | (go_at_call 44; refine (of_any _ _).mono ?_; rintro e w' ⟨rfl, rfl⟩; (try rw [show ruleT 1 = 85 from hk_]))
    | (go_at_call 22; refine (jis_any _ _ _ _ _ _ _ _ _ _ _ _ _ _).mono ?_; rintro e w2 ⟨rfl, hb2⟩; rw [hJ]; clear q0 q1 q2 q3 q4 q5 q6 q7 q8 q9 q10 p0 p1 r0 r1 f0 f1; have F2 := j_more F1 hb2; clear hb2; obtain ⟨q0, q1, q2, q3, q4, q5, q6, q7, q8, q9, q10⟩ := F2.1.all; have p0 := F2.2.1.cell 0 _ rfl; have p1 := F2.2.1.cell 1 _ rfl; have r0 := F2.2.2.1.cell 0 _ rfl; have r1 := F2.2.2.1.cell 1 _ rfl; have f0 := F2.2.2.1.frozen 0; have f1 := F2.2.2.1.frozen 1; have p01 : ∀ o0, (w2.alloc o0).cell? ⟨w.heap.size + 1, 0, none⟩ = some (.int .i64 l) := fun o0 => (F2.2.1.alloc o0).cell 0 _ rfl; have p11 : ∀ o0, (w2.alloc o0).cell? ⟨w.heap.size + 1, 1, none⟩ = some (.int .i64 0) := fun o0 => (F2.2.1.alloc o0).cell 1 _ rfl; have r01 : ∀ o0, (w2.alloc o0).cell? ⟨w.heap.size + 1 + 1, 0, none⟩ = some (.int .i64 0) := fun o0 => (F2.2.2.1.alloc o0).cell 0 _ rfl; have r11 : ∀ o0, (w2.alloc o0).cell? ⟨w.heap.size + 1 + 1, 1, none⟩ = some (.int .i64 0) := fun o0 => (F2.2.2.1.alloc o0).cell 1 _ rfl; have f01 : ∀ o0, (w2.alloc o0).frozen? ⟨w.heap.size + 1 + 1, 0, none⟩ = false := fun o0 => (F2.2.2.1.alloc o0).frozen 0; have f11 : ∀ o0, (w2.alloc o0).frozen? ⟨w.heap.size + 1 + 1, 1, none⟩ = false := fun o0 => (F2.2.2.1.alloc o0).frozen 1; have p02 : ∀ o0 o1, ((w2.alloc o0).alloc o1).cell? ⟨w.heap.size + 1, 0, none⟩ = some (.int .i64 l) := fun o0 o1 => ((F2.2.1.alloc o0).alloc o1).cell 0 _ rfl; have p12 : ∀ o0 o1, ((w2.alloc o0).alloc o1).cell? ⟨w.heap.size + 1, 1, none⟩ = some (.int .i64 0) := fun o0 o1 => ((F2.2.1.alloc o0).alloc o1).cell 1 _ rfl; have r02 : ∀ o0 o1, ((w2.alloc o0).alloc o1).cell? ⟨w.heap.size + 1 + 1, 0, none⟩ = some (.int .i64 0) := fun o0 o1 => ((F2.2.2.1.alloc o0).alloc o1).cell 0 _ rfl; have r12 : ∀ o0 o1, ((w2.alloc o0).alloc o1).cell? ⟨w.heap.size + 1 + 1, 1, none⟩ = some (.int .i64 0) := fun o0 o1 => ((F2.2.2.1.alloc o0).alloc o1).cell 1 _ rfl; have f02 : ∀ o0 o1, ((w2.alloc o0).alloc o1).frozen? ⟨w.heap.size + 1 + 1, 0, none⟩ = false := fun o0 o1 => ((F2.2.2.1.alloc o0).alloc o1).frozen 0; have f12 : ∀ o0 o1, ((w2.alloc o0).alloc o1).frozen? ⟨w.heap.size + 1 + 1, 1, none⟩ = false := fun o0 o1 => ((F2.2.2.1.alloc o0).alloc o1).frozen 1; have p03 : ∀ o0 o1 o2, (((w2.alloc o0).alloc o1).alloc o2).cell? ⟨w.heap.size + 1, 0, none⟩ = some (.int .i64 l) := fun o0 o1 o2 => (((F2.2.1.alloc o0).alloc o1).alloc o2).cell 0 _ rfl; have p13 : ∀ o0 o1 o2, (((w2.alloc o0).alloc o1).alloc o2).cell? ⟨w.heap.size + 1, 1, none⟩ = some (.int .i64 0) := fun o0 o1 o2 => (((F2.2.1.alloc o0).alloc o1).alloc o2).cell 1 _ rfl; have r03 : ∀ o0 o1 o2, (((w2.alloc o0).alloc o1).alloc o2).cell? ⟨w.heap.size + 1 + 1, 0, none⟩ = some (.int .i64 0) := fun o0 o1 o2 => (((F2.2.2.1.alloc o0).alloc o1).alloc o2).cell 0 _ rfl; have r13 : ∀ o0 o1 o2, (((w2.alloc o0).alloc o1).alloc o2).cell? ⟨w.heap.size + 1 + 1, 1, none⟩ = some (.int .i64 0) := fun o0 o1 o2 => (((F2.2.2.1.alloc o0).alloc o1).alloc o2).cell 1 _ rfl; have f03 : ∀ o0 o1 o2, (((w2.alloc o0).alloc o1).alloc o2).frozen? ⟨w.heap.size + 1 + 1, 0, none⟩ = false := fun o0 o1 o2 => (((F2.2.2.1.alloc o0).alloc o1).alloc o2).frozen 0; have f13 : ∀ o0 o1 o2, (((w2.alloc o0).alloc o1).alloc o2).frozen? ⟨w.heap.size + 1 + 1, 1, none⟩ = false := fun o0 o1 o2 => (((F2.2.2.1.alloc o0).alloc o1).alloc o2).frozen 1; have p04 : ∀ o0 o1 o2 o3, ((((w2.alloc o0).alloc o1).alloc o2).alloc o3).cell? ⟨w.heap.size + 1, 0, none⟩ = some (.int .i64 l) := fun o0 o1 o2 o3 => ((((F2.2.1.alloc o0).alloc o1).alloc o2).alloc o3).cell 0 _ rfl; have p14 : ∀ o0 o1 o2 o3, ((((w2.alloc o0).alloc o1).alloc o2).alloc o3).cell? ⟨w.heap.size + 1, 1, none⟩ = some (.int .i64 0) := fun o0 o1 o2 o3 => ((((F2.2.1.alloc o0).alloc o1).alloc o2).alloc o3).cell 1 _ rfl; have r04 : ∀ o0 o1 o2 o3, ((((w2.alloc o0).alloc o1).alloc o2).alloc o3).cell? ⟨w.heap.size + 1 + 1, 0, none⟩ = some (.int .i64 0) := fun o0 o1 o2 o3 => ((((F2.2.2.1.alloc o0).alloc o1).alloc o2).alloc o3).cell 0 _ rfl; have r14 : ∀ o0 o1 o2 o3, ((((w2.alloc o0).alloc o1).alloc o2).alloc o3).cell? ⟨w.heap.size + 1 + 1, 1, none⟩ = some (.int .i64 0) := fun o0 o1 o2 o3 => ((((F2.2.2.1.alloc o0).alloc o1).alloc o2).alloc o3).cell 1 _ rfl; have f04 : ∀ o0 o1 o2 o3, ((((w2.alloc o0).alloc o1).alloc o2).alloc o3).frozen? ⟨w.heap.size + 1 + 1, 0, none⟩ = false := fun o0 o1 o2 o3 => ((((F2.2.2.1.alloc o0).alloc o1).alloc o2).alloc o3).frozen 0; have f14 : ∀ o0 o1 o2 o3, ((((w2.alloc o0).alloc o1).alloc o2).alloc o3).frozen? ⟨w.heap.size + 1 + 1, 1, none⟩ = false := fun o0 o1 o2 o3 => ((((F2.2.2.1.alloc o0).alloc o1).alloc o2).alloc o3).frozen 1)
    | go_in)
  (try rw [e1])
  (try rw [e2])
  show bodyPost _ _ _ Exit.ret _ (World.setCell (World.setCell ?W _ _) _ _)
  have g : Blk ?W (w.heap.size + 1 + 1) #[.int .i64 0, .int .i64 0] 25 ∧ Below w.heap.size w ?W := by
    constructor
    · with_reducible repeat (first | exact F2.2.2.1 | refine Blk.alloc ?_ _)
    · with_reducible repeat (first | exact F2.2.2.2 | refine below_alloc ?_ _)
  have x := j_put (.int .i64 (l - 1)) (.int .i64 (s + 1)) g.1 g.2 (by omega)
  have y0 := x.1.cell 0 _ rfl
  have y1 := x.1.cell 1 _ rfl
  refine bodyPost_ret (v := .tuple #[.agg #[.int .i64 (l - 1), .int .i64 (s + 1)], .int .i64 0, .int .i64 0]) (by simp [results, Try.results15, go_sem, y0, y1]) rfl ⟨rfl, x.2⟩
set_option maxRecDepth 100000 in
set_option maxHeartbeats 1000000 in
theorem enter_used_there (x0 x2 x3 x4 x5 x6 x7 x8 x9 x10 l s : Int) (w : World) (hw : -9223372036854775808 ≤ s ∧ s ≤ 9223372036854775807) (hc : coversR x0 2 x2 x3 x4 x5 x6 x7 x8 x9 x10 s = (true, 0)) (hJ : jisB x0 2 x2 x3 x4 x5 x6 x7 x8 x9 x10 l 0 = true) (hl : l ≤ 0)  :
    Calls Try.prog 15 #[.agg #[.int .i64 x0, .int .i64 2, .int .i64 x2, .int .i64 x3, .int .i64 x4, .int .i64 x5, .int .i64 x6, .int .i64 x7, .int .i64 x8, .int .i64 x9, .int .i64 x10], .agg #[.int .i64 l, .int .i64 0], .int .i64 s] w fun e w' => e = .returned (.tuple #[.agg #[.int .i64 (l), .int .i64 (0)], .int .i64 10, .int .i64 0]) ∧ Below w.heap.size w w' := by
  have hk_ : ruleT 2 = 86 := rfl
  have hd : decide (0 < l) = false := decide_eq_false (by omega)
  go_enter Try.func15, Try.ntmps15
  go_wp2_with (first
    | (go_at_call 27; refine (covers_any _ _ _ _ _ _ _ _ _ _ _ _ _ hw).mono ?_; rintro e w1 ⟨rfl, hb⟩; rw [hc]; have F1 := j_facts hb; clear hb; obtain ⟨q0, q1, q2, q3, q4, q5, q6, q7, q8, q9, q10⟩ := F1.1.all; have p0 := F1.2.1.cell 0 _ rfl; have p1 := F1.2.1.cell 1 _ rfl; have r0 := F1.2.2.1.cell 0 _ rfl; have r1 := F1.2.2.1.cell 1 _ rfl; have f0 := F1.2.2.1.frozen 0; have f1 := F1.2.2.1.frozen 1)
    | (go_at_call 44; refine (of_any _ _).mono ?_; rintro e w' ⟨rfl, rfl⟩; (try rw [show ruleT 2 = 86 from hk_]))
    | (go_at_call 22; refine (jis_any _ _ _ _ _ _ _ _ _ _ _ _ _ _).mono ?_; rintro e w2 ⟨rfl, hb2⟩; rw [hJ]; clear q0 q1 q2 q3 q4 q5 q6 q7 q8 q9 q10 p0 p1 r0 r1 f0 f1; have F2 := j_more F1 hb2; clear hb2; obtain ⟨q0, q1, q2, q3, q4, q5, q6, q7, q8, q9, q10⟩ := F2.1.all; have p0 := F2.2.1.cell 0 _ rfl; have p1 := F2.2.1.cell 1 _ rfl; have r0 := F2.2.2.1.cell 0 _ rfl; have r1 := F2.2.2.1.cell 1 _ rfl; have f0 := F2.2.2.1.frozen 0; have f1 := F2.2.2.1.frozen 1; have p01 : ∀ o0, (w2.alloc o0).cell? ⟨w.heap.size + 1, 0, none⟩ = some (.int .i64 l) := fun o0 => (F2.2.1.alloc o0).cell 0 _ rfl; have p11 : ∀ o0, (w2.alloc o0).cell? ⟨w.heap.size + 1, 1, none⟩ = some (.int .i64 0) := fun o0 => (F2.2.1.alloc o0).cell 1 _ rfl; have r01 : ∀ o0, (w2.alloc o0).cell? ⟨w.heap.size + 1 + 1, 0, none⟩ = some (.int .i64 0) := fun o0 => (F2.2.2.1.alloc o0).cell 0 _ rfl; have r11 : ∀ o0, (w2.alloc o0).cell? ⟨w.heap.size + 1 + 1, 1, none⟩ = some (.int .i64 0) := fun o0 => (F2.2.2.1.alloc o0).cell 1 _ rfl; have f01 : ∀ o0, (w2.alloc o0).frozen? ⟨w.heap.size + 1 + 1, 0, none⟩ = false := fun o0 => (F2.2.2.1.alloc o0).frozen 0; have f11 : ∀ o0, (w2.alloc o0).frozen? ⟨w.heap.size + 1 + 1, 1, none⟩ = false := fun o0 => (F2.2.2.1.alloc o0).frozen 1; have p02 : ∀ o0 o1, ((w2.alloc o0).alloc o1).cell? ⟨w.heap.size + 1, 0, none⟩ = some (.int .i64 l) := fun o0 o1 => ((F2.2.1.alloc o0).alloc o1).cell 0 _ rfl; have p12 : ∀ o0 o1, ((w2.alloc o0).alloc o1).cell? ⟨w.heap.size + 1, 1, none⟩ = some (.int .i64 0) := fun o0 o1 => ((F2.2.1.alloc o0).alloc o1).cell 1 _ rfl; have r02 : ∀ o0 o1, ((w2.alloc o0).alloc o1).cell? ⟨w.heap.size + 1 + 1, 0, none⟩ = some (.int .i64 0) := fun o0 o1 => ((F2.2.2.1.alloc o0).alloc o1).cell 0 _ rfl; have r12 : ∀ o0 o1, ((w2.alloc o0).alloc o1).cell? ⟨w.heap.size + 1 + 1, 1, none⟩ = some (.int .i64 0) := fun o0 o1 => ((F2.2.2.1.alloc o0).alloc o1).cell 1 _ rfl; have f02 : ∀ o0 o1, ((w2.alloc o0).alloc o1).frozen? ⟨w.heap.size + 1 + 1, 0, none⟩ = false := fun o0 o1 => ((F2.2.2.1.alloc o0).alloc o1).frozen 0; have f12 : ∀ o0 o1, ((w2.alloc o0).alloc o1).frozen? ⟨w.heap.size + 1 + 1, 1, none⟩ = false := fun o0 o1 => ((F2.2.2.1.alloc o0).alloc o1).frozen 1)
    | go_in)
  show bodyPost _ _ _ Exit.ret _ (World.setCell (World.setCell ?W _ _) _ _)
  have g : Blk ?W (w.heap.size + 1 + 1) #[.int .i64 0, .int .i64 0] 25 ∧ Below w.heap.size w ?W := by
    constructor
    · with_reducible repeat (first | exact F2.2.2.1 | refine Blk.alloc ?_ _)
    · with_reducible repeat (first | exact F2.2.2.2 | refine below_alloc ?_ _)
  have x := j_put (.int .i64 (l)) (.int .i64 (0)) g.1 g.2 (by omega)
  have y0 := x.1.cell 0 _ rfl
  have y1 := x.1.cell 1 _ rfl
  refine bodyPost_ret (v := .tuple #[.agg #[.int .i64 (l), .int .i64 (0)], .int .i64 10, .int .i64 0]) (by simp [results, Try.results15, go_sem, y0, y1]) rfl ⟨rfl, x.2⟩
set_option maxRecDepth 100000 in
set_option maxHeartbeats 1000000 in
theorem enter_ok_there (x0 x2 x3 x4 x5 x6 x7 x8 x9 x10 l s : Int) (w : World) (hw : -9223372036854775808 ≤ s ∧ s ≤ 9223372036854775807) (hc : coversR x0 2 x2 x3 x4 x5 x6 x7 x8 x9 x10 s = (true, 0)) (hJ : jisB x0 2 x2 x3 x4 x5 x6 x7 x8 x9 x10 l 0 = true) (hl : 0 < l) (hl2 : l ≤ 9223372036854775807) (hs : 0 ≤ s) (hs2 : s < 40)  :
    Calls Try.prog 15 #[.agg #[.int .i64 x0, .int .i64 2, .int .i64 x2, .int .i64 x3, .int .i64 x4, .int .i64 x5, .int .i64 x6, .int .i64 x7, .int .i64 x8, .int .i64 x9, .int .i64 x10], .agg #[.int .i64 l, .int .i64 0], .int .i64 s] w fun e w' => e = .returned (.tuple #[.agg #[.int .i64 (l - 1), .int .i64 (s + 1)], .int .i64 0, .int .i64 0]) ∧ Below w.heap.size w w' := by
  have hk_ : ruleT 2 = 86 := rfl
  have e1 : wrap64 (l - 1) = l - 1 := tw64 (by omega) (by omega)
  have e2 : wrap64 (s + 1) = s + 1 := tw64 (by omega) (by omega)
  have hd : decide (0 < l) = true := decide_eq_true hl
  go_enter Try.func15, Try.ntmps15
  go_wp2_with (first
    | (go_at_call 27; refine (covers_any _ _ _ _ _ _ _ _ _ _ _ _ _ hw).mono ?_; rintro e w1 ⟨rfl, hb⟩; rw [hc]; have F1 := j_facts hb; clear hb; obtain ⟨q0, q1, q2, q3, q4, q5, q6, q7, q8, q9, q10⟩ := F1.1.all; have p0 := F1.2.1.cell 0 _ rfl; have p1 := F1.2.1.cell 1 _ rfl; have r0 := F1.2.2.1.cell 0 _ rfl; have r1 := F1.2.2.1.cell 1 _ rfl; have f0 := F1.2.2.1.frozen 0; have f1 := F1.2.2.1.frozen 1)
    | (go_at_call 44; refine (of_any _ _).mono ?_; rintro e w' ⟨rfl, rfl⟩; (try rw [show ruleT 2 = 86 from hk_]))
    | (go_at_call 22; refine (jis_any _ _ _ _ _ _ _ _ _ _ _ _ _ _).mono ?_; rintro e w2 ⟨rfl, hb2⟩; rw [hJ]; clear q0 q1 q2 q3 q4 q5 q6 q7 q8 q9 q10 p0 p1 r0 r1 f0 f1; have F2 := j_more F1 hb2; clear hb2; obtain ⟨q0, q1, q2, q3, q4, q5, q6, q7, q8, q9, q10⟩ := F2.1.all; have p0 := F2.2.1.cell 0 _ rfl; have p1 := F2.2.1.cell 1 _ rfl; have r0 := F2.2.2.1.cell 0 _ rfl; have r1 := F2.2.2.1.cell 1 _ rfl; have f0 := F2.2.2.1.frozen 0; have f1 := F2.2.2.1.frozen 1; have p01 : ∀ o0, (w2.alloc o0).cell? ⟨w.heap.size + 1, 0, none⟩ = some (.int .i64 l) := fun o0 => (F2.2.1.alloc o0).cell 0 _ rfl; have p11 : ∀ o0, (w2.alloc o0).cell? ⟨w.heap.size + 1, 1, none⟩ = some (.int .i64 0) := fun o0 => (F2.2.1.alloc o0).cell 1 _ rfl; have r01 : ∀ o0, (w2.alloc o0).cell? ⟨w.heap.size + 1 + 1, 0, none⟩ = some (.int .i64 0) := fun o0 => (F2.2.2.1.alloc o0).cell 0 _ rfl; have r11 : ∀ o0, (w2.alloc o0).cell? ⟨w.heap.size + 1 + 1, 1, none⟩ = some (.int .i64 0) := fun o0 => (F2.2.2.1.alloc o0).cell 1 _ rfl; have f01 : ∀ o0, (w2.alloc o0).frozen? ⟨w.heap.size + 1 + 1, 0, none⟩ = false := fun o0 => (F2.2.2.1.alloc o0).frozen 0; have f11 : ∀ o0, (w2.alloc o0).frozen? ⟨w.heap.size + 1 + 1, 1, none⟩ = false := fun o0 => (F2.2.2.1.alloc o0).frozen 1; have p02 : ∀ o0 o1, ((w2.alloc o0).alloc o1).cell? ⟨w.heap.size + 1, 0, none⟩ = some (.int .i64 l) := fun o0 o1 => ((F2.2.1.alloc o0).alloc o1).cell 0 _ rfl; have p12 : ∀ o0 o1, ((w2.alloc o0).alloc o1).cell? ⟨w.heap.size + 1, 1, none⟩ = some (.int .i64 0) := fun o0 o1 => ((F2.2.1.alloc o0).alloc o1).cell 1 _ rfl; have r02 : ∀ o0 o1, ((w2.alloc o0).alloc o1).cell? ⟨w.heap.size + 1 + 1, 0, none⟩ = some (.int .i64 0) := fun o0 o1 => ((F2.2.2.1.alloc o0).alloc o1).cell 0 _ rfl; have r12 : ∀ o0 o1, ((w2.alloc o0).alloc o1).cell? ⟨w.heap.size + 1 + 1, 1, none⟩ = some (.int .i64 0) := fun o0 o1 => ((F2.2.2.1.alloc o0).alloc o1).cell 1 _ rfl; have f02 : ∀ o0 o1, ((w2.alloc o0).alloc o1).frozen? ⟨w.heap.size + 1 + 1, 0, none⟩ = false := fun o0 o1 => ((F2.2.2.1.alloc o0).alloc o1).frozen 0; have f12 : ∀ o0 o1, ((w2.alloc o0).alloc o1).frozen? ⟨w.heap.size + 1 + 1, 1, none⟩ = false := fun o0 o1 => ((F2.2.2.1.alloc o0).alloc o1).frozen 1; have p03 : ∀ o0 o1 o2, (((w2.alloc o0).alloc o1).alloc o2).cell? ⟨w.heap.size + 1, 0, none⟩ = some (.int .i64 l) := fun o0 o1 o2 => (((F2.2.1.alloc o0).alloc o1).alloc o2).cell 0 _ rfl; have p13 : ∀ o0 o1 o2, (((w2.alloc o0).alloc o1).alloc o2).cell? ⟨w.heap.size + 1, 1, none⟩ = some (.int .i64 0) := fun o0 o1 o2 => (((F2.2.1.alloc o0).alloc o1).alloc o2).cell 1 _ rfl; have r03 : ∀ o0 o1 o2, (((w2.alloc o0).alloc o1).alloc o2).cell? ⟨w.heap.size + 1 + 1, 0, none⟩ = some (.int .i64 0) := fun o0 o1 o2 => (((F2.2.2.1.alloc o0).alloc o1).alloc o2).cell 0 _ rfl; have r13 : ∀ o0 o1 o2, (((w2.alloc o0).alloc o1).alloc o2).cell? ⟨w.heap.size + 1 + 1, 1, none⟩ = some (.int .i64 0) := fun o0 o1 o2 => (((F2.2.2.1.alloc o0).alloc o1).alloc o2).cell 1 _ rfl; have f03 : ∀ o0 o1 o2, (((w2.alloc o0).alloc o1).alloc o2).frozen? ⟨w.heap.size + 1 + 1, 0, none⟩ = false := fun o0 o1 o2 => (((F2.2.2.1.alloc o0).alloc o1).alloc o2).frozen 0; have f13 : ∀ o0 o1 o2, (((w2.alloc o0).alloc o1).alloc o2).frozen? ⟨w.heap.size + 1 + 1, 1, none⟩ = false := fun o0 o1 o2 => (((F2.2.2.1.alloc o0).alloc o1).alloc o2).frozen 1; have p04 : ∀ o0 o1 o2 o3, ((((w2.alloc o0).alloc o1).alloc o2).alloc o3).cell? ⟨w.heap.size + 1, 0, none⟩ = some (.int .i64 l) := fun o0 o1 o2 o3 => ((((F2.2.1.alloc o0).alloc o1).alloc o2).alloc o3).cell 0 _ rfl; have p14 : ∀ o0 o1 o2 o3, ((((w2.alloc o0).alloc o1).alloc o2).alloc o3).cell? ⟨w.heap.size + 1, 1, none⟩ = some (.int .i64 0) := fun o0 o1 o2 o3 => ((((F2.2.1.alloc o0).alloc o1).alloc o2).alloc o3).cell 1 _ rfl; have r04 : ∀ o0 o1 o2 o3, ((((w2.alloc o0).alloc o1).alloc o2).alloc o3).cell? ⟨w.heap.size + 1 + 1, 0, none⟩ = some (.int .i64 0) := fun o0 o1 o2 o3 => ((((F2.2.2.1.alloc o0).alloc o1).alloc o2).alloc o3).cell 0 _ rfl; have r14 : ∀ o0 o1 o2 o3, ((((w2.alloc o0).alloc o1).alloc o2).alloc o3).cell? ⟨w.heap.size + 1 + 1, 1, none⟩ = some (.int .i64 0) := fun o0 o1 o2 o3 => ((((F2.2.2.1.alloc o0).alloc o1).alloc o2).alloc o3).cell 1 _ rfl; have f04 : ∀ o0 o1 o2 o3, ((((w2.alloc o0).alloc o1).alloc o2).alloc o3).frozen? ⟨w.heap.size + 1 + 1, 0, none⟩ = false := fun o0 o1 o2 o3 => ((((F2.2.2.1.alloc o0).alloc o1).alloc o2).alloc o3).frozen 0; have f14 : ∀ o0 o1 o2 o3, ((((w2.alloc o0).alloc o1).alloc o2).alloc o3).frozen? ⟨w.heap.size + 1 + 1, 1, none⟩ = false := fun o0 o1 o2 o3 => ((((F2.2.2.1.alloc o0).alloc o1).alloc o2).alloc o3).frozen 1)
    | go_in)
  (try rw [e1])
  (try rw [e2])
  show bodyPost _ _ _ Exit.ret _ (World.setCell (World.setCell ?W _ _) _ _)
  have g : Blk ?W (w.heap.size + 1 + 1) #[.int .i64 0, .int .i64 0] 25 ∧ Below w.heap.size w ?W := by
    constructor
    · with_reducible repeat (first | exact F2.2.2.1 | refine Blk.alloc ?_ _)
    · with_reducible repeat (first | exact F2.2.2.2 | refine below_alloc ?_ _)
  have x := j_put (.int .i64 (l - 1)) (.int .i64 (s + 1)) g.1 g.2 (by omega)
  have y0 := x.1.cell 0 _ rfl
  have y1 := x.1.cell 1 _ rfl
  refine bodyPost_ret (v := .tuple #[.agg #[.int .i64 (l - 1), .int .i64 (s + 1)], .int .i64 0, .int .i64 0]) (by simp [results, Try.results15, go_sem, y0, y1]) rfl ⟨rfl, x.2⟩
set_option maxRecDepth 100000 in
set_option maxHeartbeats 1000000 in
theorem enter_used_legs (x0 x1 x2 x3 x4 x5 x6 x7 x8 x9 x10 l s : Int) (w : World) (hw : -9223372036854775808 ≤ s ∧ s ≤ 9223372036854775807) (hc : coversR x0 x1 x2 x3 x4 x5 x6 x7 x8 x9 x10 s = (true, 0)) (hJ : jisB x0 x1 x2 x3 x4 x5 x6 x7 x8 x9 x10 l 0 = true) (hl : l ≤ 0) (h1 : x1 ≠ 1) (h2 : x1 ≠ 2) (h3 : x1 ≠ 3) :
    Calls Try.prog 15 #[.agg #[.int .i64 x0, .int .i64 x1, .int .i64 x2, .int .i64 x3, .int .i64 x4, .int .i64 x5, .int .i64 x6, .int .i64 x7, .int .i64 x8, .int .i64 x9, .int .i64 x10], .agg #[.int .i64 l, .int .i64 0], .int .i64 s] w fun e w' => e = .returned (.tuple #[.agg #[.int .i64 (l), .int .i64 (0)], .int .i64 10, .int .i64 0]) ∧ Below w.heap.size w w' := by
  have hk_ : ruleT x1 = 83 := by unfold ruleT; simp [*]
  have hd : decide (0 < l) = false := decide_eq_false (by omega)
  go_enter Try.func15, Try.ntmps15
  go_wp2_with (first
    | (go_at_call 27; refine (covers_any _ _ _ _ _ _ _ _ _ _ _ _ _ hw).mono ?_; rintro e w1 ⟨rfl, hb⟩; rw [hc]; have F1 := j_facts hb; clear hb; obtain ⟨q0, q1, q2, q3, q4, q5, q6, q7, q8, q9, q10⟩ := F1.1.all; have p0 := F1.2.1.cell 0 _ rfl; have p1 := F1.2.1.cell 1 _ rfl; have r0 := F1.2.2.1.cell 0 _ rfl; have r1 := F1.2.2.1.cell 1 _ rfl; have f0 := F1.2.2.1.frozen 0; have f1 := F1.2.2.1.frozen 1)
    | (go_at_call 44; refine (of_any _ _).mono ?_; rintro e w' ⟨rfl, rfl⟩; (try rw [show ruleT x1 = 83 from hk_]))
    | (go_at_call 22; refine (jis_any _ _ _ _ _ _ _ _ _ _ _ _ _ _).mono ?_; rintro e w2 ⟨rfl, hb2⟩; rw [hJ]; clear q0 q1 q2 q3 q4 q5 q6 q7 q8 q9 q10 p0 p1 r0 r1 f0 f1; have F2 := j_more F1 hb2; clear hb2; obtain ⟨q0, q1, q2, q3, q4, q5, q6, q7, q8, q9, q10⟩ := F2.1.all; have p0 := F2.2.1.cell 0 _ rfl; have p1 := F2.2.1.cell 1 _ rfl; have r0 := F2.2.2.1.cell 0 _ rfl; have r1 := F2.2.2.1.cell 1 _ rfl; have f0 := F2.2.2.1.frozen 0; have f1 := F2.2.2.1.frozen 1; have p01 : ∀ o0, (w2.alloc o0).cell? ⟨w.heap.size + 1, 0, none⟩ = some (.int .i64 l) := fun o0 => (F2.2.1.alloc o0).cell 0 _ rfl; have p11 : ∀ o0, (w2.alloc o0).cell? ⟨w.heap.size + 1, 1, none⟩ = some (.int .i64 0) := fun o0 => (F2.2.1.alloc o0).cell 1 _ rfl; have r01 : ∀ o0, (w2.alloc o0).cell? ⟨w.heap.size + 1 + 1, 0, none⟩ = some (.int .i64 0) := fun o0 => (F2.2.2.1.alloc o0).cell 0 _ rfl; have r11 : ∀ o0, (w2.alloc o0).cell? ⟨w.heap.size + 1 + 1, 1, none⟩ = some (.int .i64 0) := fun o0 => (F2.2.2.1.alloc o0).cell 1 _ rfl; have f01 : ∀ o0, (w2.alloc o0).frozen? ⟨w.heap.size + 1 + 1, 0, none⟩ = false := fun o0 => (F2.2.2.1.alloc o0).frozen 0; have f11 : ∀ o0, (w2.alloc o0).frozen? ⟨w.heap.size + 1 + 1, 1, none⟩ = false := fun o0 => (F2.2.2.1.alloc o0).frozen 1; have p02 : ∀ o0 o1, ((w2.alloc o0).alloc o1).cell? ⟨w.heap.size + 1, 0, none⟩ = some (.int .i64 l) := fun o0 o1 => ((F2.2.1.alloc o0).alloc o1).cell 0 _ rfl; have p12 : ∀ o0 o1, ((w2.alloc o0).alloc o1).cell? ⟨w.heap.size + 1, 1, none⟩ = some (.int .i64 0) := fun o0 o1 => ((F2.2.1.alloc o0).alloc o1).cell 1 _ rfl; have r02 : ∀ o0 o1, ((w2.alloc o0).alloc o1).cell? ⟨w.heap.size + 1 + 1, 0, none⟩ = some (.int .i64 0) := fun o0 o1 => ((F2.2.2.1.alloc o0).alloc o1).cell 0 _ rfl; have r12 : ∀ o0 o1, ((w2.alloc o0).alloc o1).cell? ⟨w.heap.size + 1 + 1, 1, none⟩ = some (.int .i64 0) := fun o0 o1 => ((F2.2.2.1.alloc o0).alloc o1).cell 1 _ rfl; have f02 : ∀ o0 o1, ((w2.alloc o0).alloc o1).frozen? ⟨w.heap.size + 1 + 1, 0, none⟩ = false := fun o0 o1 => ((F2.2.2.1.alloc o0).alloc o1).frozen 0; have f12 : ∀ o0 o1, ((w2.alloc o0).alloc o1).frozen? ⟨w.heap.size + 1 + 1, 1, none⟩ = false := fun o0 o1 => ((F2.2.2.1.alloc o0).alloc o1).frozen 1)
    | go_in)
  show bodyPost _ _ _ Exit.ret _ (World.setCell (World.setCell ?W _ _) _ _)
  have g : Blk ?W (w.heap.size + 1 + 1) #[.int .i64 0, .int .i64 0] 25 ∧ Below w.heap.size w ?W := by
    constructor
    · with_reducible repeat (first | exact F2.2.2.1 | refine Blk.alloc ?_ _)
    · with_reducible repeat (first | exact F2.2.2.2 | refine below_alloc ?_ _)
  have x := j_put (.int .i64 (l)) (.int .i64 (0)) g.1 g.2 (by omega)
  have y0 := x.1.cell 0 _ rfl
  have y1 := x.1.cell 1 _ rfl
  refine bodyPost_ret (v := .tuple #[.agg #[.int .i64 (l), .int .i64 (0)], .int .i64 10, .int .i64 0]) (by simp [results, Try.results15, go_sem, y0, y1]) rfl ⟨rfl, x.2⟩
set_option maxRecDepth 100000 in
set_option maxHeartbeats 1000000 in
theorem enter_ok_legs (x0 x1 x2 x3 x4 x5 x6 x7 x8 x9 x10 l s : Int) (w : World) (hw : -9223372036854775808 ≤ s ∧ s ≤ 9223372036854775807) (hc : coversR x0 x1 x2 x3 x4 x5 x6 x7 x8 x9 x10 s = (true, 0)) (hJ : jisB x0 x1 x2 x3 x4 x5 x6 x7 x8 x9 x10 l 0 = true) (hl : 0 < l) (hl2 : l ≤ 9223372036854775807) (hs : 0 ≤ s) (hs2 : s < 40) (h1 : x1 ≠ 1) (h2 : x1 ≠ 2) (h3 : x1 ≠ 3) :
    Calls Try.prog 15 #[.agg #[.int .i64 x0, .int .i64 x1, .int .i64 x2, .int .i64 x3, .int .i64 x4, .int .i64 x5, .int .i64 x6, .int .i64 x7, .int .i64 x8, .int .i64 x9, .int .i64 x10], .agg #[.int .i64 l, .int .i64 0], .int .i64 s] w fun e w' => e = .returned (.tuple #[.agg #[.int .i64 (l - 1), .int .i64 (s + 1)], .int .i64 0, .int .i64 0]) ∧ Below w.heap.size w w' := by
  have hk_ : ruleT x1 = 83 := by unfold ruleT; simp [*]
  have e1 : wrap64 (l - 1) = l - 1 := tw64 (by omega) (by omega)
  have e2 : wrap64 (s + 1) = s + 1 := tw64 (by omega) (by omega)
  have hd : decide (0 < l) = true := decide_eq_true hl
  go_enter Try.func15, Try.ntmps15
  go_wp2_with (first
    | (go_at_call 27; refine (covers_any _ _ _ _ _ _ _ _ _ _ _ _ _ hw).mono ?_; rintro e w1 ⟨rfl, hb⟩; rw [hc]; have F1 := j_facts hb; clear hb; obtain ⟨q0, q1, q2, q3, q4, q5, q6, q7, q8, q9, q10⟩ := F1.1.all; have p0 := F1.2.1.cell 0 _ rfl; have p1 := F1.2.1.cell 1 _ rfl; have r0 := F1.2.2.1.cell 0 _ rfl; have r1 := F1.2.2.1.cell 1 _ rfl; have f0 := F1.2.2.1.frozen 0; have f1 := F1.2.2.1.frozen 1)
    | (go_at_call 44; refine (of_any _ _).mono ?_; rintro e w' ⟨rfl, rfl⟩; (try rw [show ruleT x1 = 83 from hk_]))
    | (go_at_call 22; refine (jis_any _ _ _ _ _ _ _ _ _ _ _ _ _ _).mono ?_; rintro e w2 ⟨rfl, hb2⟩; rw [hJ]; clear q0 q1 q2 q3 q4 q5 q6 q7 q8 q9 q10 p0 p1 r0 r1 f0 f1; have F2 := j_more F1 hb2; clear hb2; obtain ⟨q0, q1, q2, q3, q4, q5, q6, q7, q8, q9, q10⟩ := F2.1.all; have p0 := F2.2.1.cell 0 _ rfl; have p1 := F2.2.1.cell 1 _ rfl; have r0 := F2.2.2.1.cell 0 _ rfl; have r1 := F2.2.2.1.cell 1 _ rfl; have f0 := F2.2.2.1.frozen 0; have f1 := F2.2.2.1.frozen 1; have p01 : ∀ o0, (w2.alloc o0).cell? ⟨w.heap.size + 1, 0, none⟩ = some (.int .i64 l) := fun o0 => (F2.2.1.alloc o0).cell 0 _ rfl; have p11 : ∀ o0, (w2.alloc o0).cell? ⟨w.heap.size + 1, 1, none⟩ = some (.int .i64 0) := fun o0 => (F2.2.1.alloc o0).cell 1 _ rfl; have r01 : ∀ o0, (w2.alloc o0).cell? ⟨w.heap.size + 1 + 1, 0, none⟩ = some (.int .i64 0) := fun o0 => (F2.2.2.1.alloc o0).cell 0 _ rfl; have r11 : ∀ o0, (w2.alloc o0).cell? ⟨w.heap.size + 1 + 1, 1, none⟩ = some (.int .i64 0) := fun o0 => (F2.2.2.1.alloc o0).cell 1 _ rfl; have f01 : ∀ o0, (w2.alloc o0).frozen? ⟨w.heap.size + 1 + 1, 0, none⟩ = false := fun o0 => (F2.2.2.1.alloc o0).frozen 0; have f11 : ∀ o0, (w2.alloc o0).frozen? ⟨w.heap.size + 1 + 1, 1, none⟩ = false := fun o0 => (F2.2.2.1.alloc o0).frozen 1; have p02 : ∀ o0 o1, ((w2.alloc o0).alloc o1).cell? ⟨w.heap.size + 1, 0, none⟩ = some (.int .i64 l) := fun o0 o1 => ((F2.2.1.alloc o0).alloc o1).cell 0 _ rfl; have p12 : ∀ o0 o1, ((w2.alloc o0).alloc o1).cell? ⟨w.heap.size + 1, 1, none⟩ = some (.int .i64 0) := fun o0 o1 => ((F2.2.1.alloc o0).alloc o1).cell 1 _ rfl; have r02 : ∀ o0 o1, ((w2.alloc o0).alloc o1).cell? ⟨w.heap.size + 1 + 1, 0, none⟩ = some (.int .i64 0) := fun o0 o1 => ((F2.2.2.1.alloc o0).alloc o1).cell 0 _ rfl; have r12 : ∀ o0 o1, ((w2.alloc o0).alloc o1).cell? ⟨w.heap.size + 1 + 1, 1, none⟩ = some (.int .i64 0) := fun o0 o1 => ((F2.2.2.1.alloc o0).alloc o1).cell 1 _ rfl; have f02 : ∀ o0 o1, ((w2.alloc o0).alloc o1).frozen? ⟨w.heap.size + 1 + 1, 0, none⟩ = false := fun o0 o1 => ((F2.2.2.1.alloc o0).alloc o1).frozen 0; have f12 : ∀ o0 o1, ((w2.alloc o0).alloc o1).frozen? ⟨w.heap.size + 1 + 1, 1, none⟩ = false := fun o0 o1 => ((F2.2.2.1.alloc o0).alloc o1).frozen 1; have p03 : ∀ o0 o1 o2, (((w2.alloc o0).alloc o1).alloc o2).cell? ⟨w.heap.size + 1, 0, none⟩ = some (.int .i64 l) := fun o0 o1 o2 => (((F2.2.1.alloc o0).alloc o1).alloc o2).cell 0 _ rfl; have p13 : ∀ o0 o1 o2, (((w2.alloc o0).alloc o1).alloc o2).cell? ⟨w.heap.size + 1, 1, none⟩ = some (.int .i64 0) := fun o0 o1 o2 => (((F2.2.1.alloc o0).alloc o1).alloc o2).cell 1 _ rfl; have r03 : ∀ o0 o1 o2, (((w2.alloc o0).alloc o1).alloc o2).cell? ⟨w.heap.size + 1 + 1, 0, none⟩ = some (.int .i64 0) := fun o0 o1 o2 => (((F2.2.2.1.alloc o0).alloc o1).alloc o2).cell 0 _ rfl; have r13 : ∀ o0 o1 o2, (((w2.alloc o0).alloc o1).alloc o2).cell? ⟨w.heap.size + 1 + 1, 1, none⟩ = some (.int .i64 0) := fun o0 o1 o2 => (((F2.2.2.1.alloc o0).alloc o1).alloc o2).cell 1 _ rfl; have f03 : ∀ o0 o1 o2, (((w2.alloc o0).alloc o1).alloc o2).frozen? ⟨w.heap.size + 1 + 1, 0, none⟩ = false := fun o0 o1 o2 => (((F2.2.2.1.alloc o0).alloc o1).alloc o2).frozen 0; have f13 : ∀ o0 o1 o2, (((w2.alloc o0).alloc o1).alloc o2).frozen? ⟨w.heap.size + 1 + 1, 1, none⟩ = false := fun o0 o1 o2 => (((F2.2.2.1.alloc o0).alloc o1).alloc o2).frozen 1; have p04 : ∀ o0 o1 o2 o3, ((((w2.alloc o0).alloc o1).alloc o2).alloc o3).cell? ⟨w.heap.size + 1, 0, none⟩ = some (.int .i64 l) := fun o0 o1 o2 o3 => ((((F2.2.1.alloc o0).alloc o1).alloc o2).alloc o3).cell 0 _ rfl; have p14 : ∀ o0 o1 o2 o3, ((((w2.alloc o0).alloc o1).alloc o2).alloc o3).cell? ⟨w.heap.size + 1, 1, none⟩ = some (.int .i64 0) := fun o0 o1 o2 o3 => ((((F2.2.1.alloc o0).alloc o1).alloc o2).alloc o3).cell 1 _ rfl; have r04 : ∀ o0 o1 o2 o3, ((((w2.alloc o0).alloc o1).alloc o2).alloc o3).cell? ⟨w.heap.size + 1 + 1, 0, none⟩ = some (.int .i64 0) := fun o0 o1 o2 o3 => ((((F2.2.2.1.alloc o0).alloc o1).alloc o2).alloc o3).cell 0 _ rfl; have r14 : ∀ o0 o1 o2 o3, ((((w2.alloc o0).alloc o1).alloc o2).alloc o3).cell? ⟨w.heap.size + 1 + 1, 1, none⟩ = some (.int .i64 0) := fun o0 o1 o2 o3 => ((((F2.2.2.1.alloc o0).alloc o1).alloc o2).alloc o3).cell 1 _ rfl; have f04 : ∀ o0 o1 o2 o3, ((((w2.alloc o0).alloc o1).alloc o2).alloc o3).frozen? ⟨w.heap.size + 1 + 1, 0, none⟩ = false := fun o0 o1 o2 o3 => ((((F2.2.2.1.alloc o0).alloc o1).alloc o2).alloc o3).frozen 0; have f14 : ∀ o0 o1 o2 o3, ((((w2.alloc o0).alloc o1).alloc o2).alloc o3).frozen? ⟨w.heap.size + 1 + 1, 1, none⟩ = false := fun o0 o1 o2 o3 => ((((F2.2.2.1.alloc o0).alloc o1).alloc o2).alloc o3).frozen 1)
    | go_in)
  (try rw [e1])
  (try rw [e2])
  show bodyPost _ _ _ Exit.ret _ (World.setCell (World.setCell ?W _ _) _ _)
  have g : Blk ?W (w.heap.size + 1 + 1) #[.int .i64 0, .int .i64 0] 25 ∧ Below w.heap.size w ?W := by
    constructor
    · with_reducible repeat (first | exact F2.2.2.1 | refine Blk.alloc ?_ _)
    · with_reducible repeat (first | exact F2.2.2.2 | refine below_alloc ?_ _)
  have x := j_put (.int .i64 (l - 1)) (.int .i64 (s + 1)) g.1 g.2 (by omega)
  have y0 := x.1.cell 0 _ rfl
  have y1 := x.1.cell 1 _ rfl
  refine bodyPost_ret (v := .tuple #[.agg #[.int .i64 (l - 1), .int .i64 (s + 1)], .int .i64 0, .int .i64 0]) (by simp [results, Try.results15, go_sem, y0, y1]) rfl ⟨rfl, x.2⟩
set_option maxRecDepth 100000 in
set_option maxHeartbeats 1000000 in
theorem enter_ok_season (x0 x2 x3 x4 x5 x6 x7 x8 x9 x10 l s : Int) (w : World) (hw : -9223372036854775808 ≤ s ∧ s ≤ 9223372036854775807) (hc : coversR x0 3 x2 x3 x4 x5 x6 x7 x8 x9 x10 s = (true, 0)) (hJ : jisB x0 3 x2 x3 x4 x5 x6 x7 x8 x9 x10 l 0 = true) (hs : 0 ≤ s) (hs2 : s < 40) :
    Calls Try.prog 15 #[.agg #[.int .i64 x0, .int .i64 3, .int .i64 x2, .int .i64 x3, .int .i64 x4, .int .i64 x5, .int .i64 x6, .int .i64 x7, .int .i64 x8, .int .i64 x9, .int .i64 x10], .agg #[.int .i64 l, .int .i64 0], .int .i64 s] w fun e w' => e = .returned (.tuple #[.agg #[.int .i64 (0), .int .i64 (s + 1)], .int .i64 0, .int .i64 0]) ∧ Below w.heap.size w w' := by
  have hk_ : ruleT 3 = 87 := rfl
  have e2 : wrap64 (s + 1) = s + 1 := tw64 (by omega) (by omega)
  go_enter Try.func15, Try.ntmps15
  go_wp2_with (first
    | (go_at_call 27; refine (covers_any _ _ _ _ _ _ _ _ _ _ _ _ _ hw).mono ?_; rintro e w1 ⟨rfl, hb⟩; rw [hc]; have F1 := j_facts hb; clear hb; obtain ⟨q0, q1, q2, q3, q4, q5, q6, q7, q8, q9, q10⟩ := F1.1.all; have p0 := F1.2.1.cell 0 _ rfl; have p1 := F1.2.1.cell 1 _ rfl; have r0 := F1.2.2.1.cell 0 _ rfl; have r1 := F1.2.2.1.cell 1 _ rfl; have f0 := F1.2.2.1.frozen 0; have f1 := F1.2.2.1.frozen 1)
    | (go_at_call 44; refine (of_any _ _).mono ?_; rintro e w' ⟨rfl, rfl⟩; (try rw [show ruleT 3 = 87 from hk_]))
    | (go_at_call 22; refine (jis_any _ _ _ _ _ _ _ _ _ _ _ _ _ _).mono ?_; rintro e w2 ⟨rfl, hb2⟩; rw [hJ]; clear q0 q1 q2 q3 q4 q5 q6 q7 q8 q9 q10 p0 p1 r0 r1 f0 f1; have F2 := j_more F1 hb2; clear hb2; obtain ⟨q0, q1, q2, q3, q4, q5, q6, q7, q8, q9, q10⟩ := F2.1.all; have p0 := F2.2.1.cell 0 _ rfl; have p1 := F2.2.1.cell 1 _ rfl; have r0 := F2.2.2.1.cell 0 _ rfl; have r1 := F2.2.2.1.cell 1 _ rfl; have f0 := F2.2.2.1.frozen 0; have f1 := F2.2.2.1.frozen 1; have p01 : ∀ o0, (w2.alloc o0).cell? ⟨w.heap.size + 1, 0, none⟩ = some (.int .i64 l) := fun o0 => (F2.2.1.alloc o0).cell 0 _ rfl; have p11 : ∀ o0, (w2.alloc o0).cell? ⟨w.heap.size + 1, 1, none⟩ = some (.int .i64 0) := fun o0 => (F2.2.1.alloc o0).cell 1 _ rfl; have r01 : ∀ o0, (w2.alloc o0).cell? ⟨w.heap.size + 1 + 1, 0, none⟩ = some (.int .i64 0) := fun o0 => (F2.2.2.1.alloc o0).cell 0 _ rfl; have r11 : ∀ o0, (w2.alloc o0).cell? ⟨w.heap.size + 1 + 1, 1, none⟩ = some (.int .i64 0) := fun o0 => (F2.2.2.1.alloc o0).cell 1 _ rfl; have f01 : ∀ o0, (w2.alloc o0).frozen? ⟨w.heap.size + 1 + 1, 0, none⟩ = false := fun o0 => (F2.2.2.1.alloc o0).frozen 0; have f11 : ∀ o0, (w2.alloc o0).frozen? ⟨w.heap.size + 1 + 1, 1, none⟩ = false := fun o0 => (F2.2.2.1.alloc o0).frozen 1; have p02 : ∀ o0 o1, ((w2.alloc o0).alloc o1).cell? ⟨w.heap.size + 1, 0, none⟩ = some (.int .i64 l) := fun o0 o1 => ((F2.2.1.alloc o0).alloc o1).cell 0 _ rfl; have p12 : ∀ o0 o1, ((w2.alloc o0).alloc o1).cell? ⟨w.heap.size + 1, 1, none⟩ = some (.int .i64 0) := fun o0 o1 => ((F2.2.1.alloc o0).alloc o1).cell 1 _ rfl; have r02 : ∀ o0 o1, ((w2.alloc o0).alloc o1).cell? ⟨w.heap.size + 1 + 1, 0, none⟩ = some (.int .i64 0) := fun o0 o1 => ((F2.2.2.1.alloc o0).alloc o1).cell 0 _ rfl; have r12 : ∀ o0 o1, ((w2.alloc o0).alloc o1).cell? ⟨w.heap.size + 1 + 1, 1, none⟩ = some (.int .i64 0) := fun o0 o1 => ((F2.2.2.1.alloc o0).alloc o1).cell 1 _ rfl; have f02 : ∀ o0 o1, ((w2.alloc o0).alloc o1).frozen? ⟨w.heap.size + 1 + 1, 0, none⟩ = false := fun o0 o1 => ((F2.2.2.1.alloc o0).alloc o1).frozen 0; have f12 : ∀ o0 o1, ((w2.alloc o0).alloc o1).frozen? ⟨w.heap.size + 1 + 1, 1, none⟩ = false := fun o0 o1 => ((F2.2.2.1.alloc o0).alloc o1).frozen 1; have p03 : ∀ o0 o1 o2, (((w2.alloc o0).alloc o1).alloc o2).cell? ⟨w.heap.size + 1, 0, none⟩ = some (.int .i64 l) := fun o0 o1 o2 => (((F2.2.1.alloc o0).alloc o1).alloc o2).cell 0 _ rfl; have p13 : ∀ o0 o1 o2, (((w2.alloc o0).alloc o1).alloc o2).cell? ⟨w.heap.size + 1, 1, none⟩ = some (.int .i64 0) := fun o0 o1 o2 => (((F2.2.1.alloc o0).alloc o1).alloc o2).cell 1 _ rfl; have r03 : ∀ o0 o1 o2, (((w2.alloc o0).alloc o1).alloc o2).cell? ⟨w.heap.size + 1 + 1, 0, none⟩ = some (.int .i64 0) := fun o0 o1 o2 => (((F2.2.2.1.alloc o0).alloc o1).alloc o2).cell 0 _ rfl; have r13 : ∀ o0 o1 o2, (((w2.alloc o0).alloc o1).alloc o2).cell? ⟨w.heap.size + 1 + 1, 1, none⟩ = some (.int .i64 0) := fun o0 o1 o2 => (((F2.2.2.1.alloc o0).alloc o1).alloc o2).cell 1 _ rfl; have f03 : ∀ o0 o1 o2, (((w2.alloc o0).alloc o1).alloc o2).frozen? ⟨w.heap.size + 1 + 1, 0, none⟩ = false := fun o0 o1 o2 => (((F2.2.2.1.alloc o0).alloc o1).alloc o2).frozen 0; have f13 : ∀ o0 o1 o2, (((w2.alloc o0).alloc o1).alloc o2).frozen? ⟨w.heap.size + 1 + 1, 1, none⟩ = false := fun o0 o1 o2 => (((F2.2.2.1.alloc o0).alloc o1).alloc o2).frozen 1; have p04 : ∀ o0 o1 o2 o3, ((((w2.alloc o0).alloc o1).alloc o2).alloc o3).cell? ⟨w.heap.size + 1, 0, none⟩ = some (.int .i64 l) := fun o0 o1 o2 o3 => ((((F2.2.1.alloc o0).alloc o1).alloc o2).alloc o3).cell 0 _ rfl; have p14 : ∀ o0 o1 o2 o3, ((((w2.alloc o0).alloc o1).alloc o2).alloc o3).cell? ⟨w.heap.size + 1, 1, none⟩ = some (.int .i64 0) := fun o0 o1 o2 o3 => ((((F2.2.1.alloc o0).alloc o1).alloc o2).alloc o3).cell 1 _ rfl; have r04 : ∀ o0 o1 o2 o3, ((((w2.alloc o0).alloc o1).alloc o2).alloc o3).cell? ⟨w.heap.size + 1 + 1, 0, none⟩ = some (.int .i64 0) := fun o0 o1 o2 o3 => ((((F2.2.2.1.alloc o0).alloc o1).alloc o2).alloc o3).cell 0 _ rfl; have r14 : ∀ o0 o1 o2 o3, ((((w2.alloc o0).alloc o1).alloc o2).alloc o3).cell? ⟨w.heap.size + 1 + 1, 1, none⟩ = some (.int .i64 0) := fun o0 o1 o2 o3 => ((((F2.2.2.1.alloc o0).alloc o1).alloc o2).alloc o3).cell 1 _ rfl; have f04 : ∀ o0 o1 o2 o3, ((((w2.alloc o0).alloc o1).alloc o2).alloc o3).frozen? ⟨w.heap.size + 1 + 1, 0, none⟩ = false := fun o0 o1 o2 o3 => ((((F2.2.2.1.alloc o0).alloc o1).alloc o2).alloc o3).frozen 0; have f14 : ∀ o0 o1 o2 o3, ((((w2.alloc o0).alloc o1).alloc o2).alloc o3).frozen? ⟨w.heap.size + 1 + 1, 1, none⟩ = false := fun o0 o1 o2 o3 => ((((F2.2.2.1.alloc o0).alloc o1).alloc o2).alloc o3).frozen 1)
    | go_in)
  (try rw [e2])
  show bodyPost _ _ _ Exit.ret _ (World.setCell (World.setCell ?W _ _) _ _)
  have g : Blk ?W (w.heap.size + 1 + 1) #[.int .i64 0, .int .i64 0] 25 ∧ Below w.heap.size w ?W := by
    constructor
    · with_reducible repeat (first | exact F2.2.2.1 | refine Blk.alloc ?_ _)
    · with_reducible repeat (first | exact F2.2.2.2 | refine below_alloc ?_ _)
  have x := j_put (.int .i64 (0)) (.int .i64 (s + 1)) g.1 g.2 (by omega)
  have y0 := x.1.cell 0 _ rfl
  have y1 := x.1.cell 1 _ rfl
  refine bodyPost_ret (v := .tuple #[.agg #[.int .i64 (0), .int .i64 (s + 1)], .int .i64 0, .int .i64 0]) (by simp [results, Try.results15, go_sem, y0, y1]) rfl ⟨rfl, x.2⟩
end Go.Proofs.Ytdiijjdhofaodaa.G
end
section
namespace Go.Proofs.Ytdiijjdhofaodaa.G
open Go Go.RowKit Go.Proofs.YtdiijjdhofaodaaW.PrintWords Go.Proofs.YtdiijjdhofaodaaW.PrintLast Go.Proofs.YtdiijjdhofaodaaW.PrintMore
theorem meth_single_end (W : World) : Sem.run Try.prog (method 211 85 (.agg #[]) "gateline/journey.end") W = .ok (96, .agg #[]) W := by rfl
theorem meth_there_end (W : World) : Sem.run Try.prog (method 211 86 (.agg #[]) "gateline/journey.end") W = .ok (97, .agg #[]) W := by rfl
theorem meth_legs_end (W : World) : Sem.run Try.prog (method 211 83 (.agg #[]) "gateline/journey.end") W = .ok (93, .agg #[]) W := by rfl
theorem meth_season_end (W : World) : Sem.run Try.prog (method 211 87 (.agg #[]) "gateline/journey.end") W = .ok (98, .agg #[]) W := by rfl
attribute [local go_sem] meth_single_end meth_there_end meth_legs_end meth_season_end
theorem end_single (x0 x1 x2 x3 x4 x5 x6 x7 x8 x9 x10 l i : Int) (w : World)  : Calls Try.prog 96 #[.agg #[], .agg #[.int .i64 x0, .int .i64 x1, .int .i64 x2, .int .i64 x3, .int .i64 x4, .int .i64 x5, .int .i64 x6, .int .i64 x7, .int .i64 x8, .int .i64 x9, .int .i64 x10], .agg #[.int .i64 l, .int .i64 i]] w fun e w' => e = .returned (.int .i64 (x3)) ∧ Below w.heap.size w w' := by
  go_enter Try.func96, Try.ntmps96
  go_wp2
  go_ret
  exact ⟨rfl, by repeat' (first | exact Below.refl _ _ | refine Below.alloc ?_ (by first | exact Nat.le_refl _ | (simp only [World.size_alloc]; omega)) _)⟩
theorem end_there_n (x0 x1 x2 x3 x4 x5 x6 x7 x8 x9 x10 l i : Int) (w : World) (hl : l ≠ 0) : Calls Try.prog 97 #[.agg #[], .agg #[.int .i64 x0, .int .i64 x1, .int .i64 x2, .int .i64 x3, .int .i64 x4, .int .i64 x5, .int .i64 x6, .int .i64 x7, .int .i64 x8, .int .i64 x9, .int .i64 x10], .agg #[.int .i64 l, .int .i64 i]] w fun e w' => e = .returned (.int .i64 (x3)) ∧ Below w.heap.size w w' := by
  have hb' : (l == 0) = false := beq_eq_false_iff_ne.2 hl
  go_enter Try.func97, Try.ntmps97
  go_wp2
  go_ret
  exact ⟨rfl, by repeat' (first | exact Below.refl _ _ | refine Below.alloc ?_ (by first | exact Nat.le_refl _ | (simp only [World.size_alloc]; omega)) _)⟩
theorem end_there_0 (x0 x1 x2 x3 x4 x5 x6 x7 x8 x9 x10 i : Int) (w : World)  : Calls Try.prog 97 #[.agg #[], .agg #[.int .i64 x0, .int .i64 x1, .int .i64 x2, .int .i64 x3, .int .i64 x4, .int .i64 x5, .int .i64 x6, .int .i64 x7, .int .i64 x8, .int .i64 x9, .int .i64 x10], .agg #[.int .i64 0, .int .i64 i]] w fun e w' => e = .returned (.int .i64 (x2)) ∧ Below w.heap.size w w' := by
  go_enter Try.func97, Try.ntmps97
  go_wp2
  go_ret
  exact ⟨rfl, by repeat' (first | exact Below.refl _ _ | refine Below.alloc ?_ (by first | exact Nat.le_refl _ | (simp only [World.size_alloc]; omega)) _)⟩
theorem end_legs (x0 x1 x2 x3 x4 x5 x6 x7 x8 x9 x10 l i : Int) (w : World)  : Calls Try.prog 93 #[.agg #[], .agg #[.int .i64 x0, .int .i64 x1, .int .i64 x2, .int .i64 x3, .int .i64 x4, .int .i64 x5, .int .i64 x6, .int .i64 x7, .int .i64 x8, .int .i64 x9, .int .i64 x10], .agg #[.int .i64 l, .int .i64 i]] w fun e w' => e = .returned (.int .i64 (-1)) ∧ Below w.heap.size w w' := by
  go_enter Try.func93, Try.ntmps93
  go_wp2
  go_ret
  exact ⟨rfl, by repeat' (first | exact Below.refl _ _ | refine Below.alloc ?_ (by first | exact Nat.le_refl _ | (simp only [World.size_alloc]; omega)) _)⟩
theorem end_season (x0 x1 x2 x3 x4 x5 x6 x7 x8 x9 x10 l i : Int) (w : World)  : Calls Try.prog 98 #[.agg #[], .agg #[.int .i64 x0, .int .i64 x1, .int .i64 x2, .int .i64 x3, .int .i64 x4, .int .i64 x5, .int .i64 x6, .int .i64 x7, .int .i64 x8, .int .i64 x9, .int .i64 x10], .agg #[.int .i64 l, .int .i64 i]] w fun e w' => e = .returned (.int .i64 (-1)) ∧ Below w.heap.size w w' := by
  go_enter Try.func98, Try.ntmps98
  go_wp2
  go_ret
  exact ⟨rfl, by repeat' (first | exact Below.refl _ _ | refine Below.alloc ?_ (by first | exact Nat.le_refl _ | (simp only [World.size_alloc]; omega)) _)⟩
set_option maxRecDepth 100000 in
set_option maxHeartbeats 1000000 in
theorem leave_off (x0 x1 x2 x3 x4 x5 x6 x7 x8 x9 x10 l i s : Int) (w : World) (hw : -9223372036854775808 ≤ s ∧ s ≤ 9223372036854775807) (hc : coversR x0 x1 x2 x3 x4 x5 x6 x7 x8 x9 x10 s = (false, 1)) :
    Calls Try.prog 17 #[.agg #[.int .i64 x0, .int .i64 x1, .int .i64 x2, .int .i64 x3, .int .i64 x4, .int .i64 x5, .int .i64 x6, .int .i64 x7, .int .i64 x8, .int .i64 x9, .int .i64 x10], .agg #[.int .i64 l, .int .i64 i], .int .i64 s] w fun e w' => e = .returned (.tuple #[.agg #[.int .i64 (0), .int .i64 (0)], .int .i64 0, .int .i64 1]) ∧ Below w.heap.size w w' := by
  have hk_ := True.intro
  go_enter Try.func17, Try.ntmps17
  go_wp2_with (first
    | (go_at_call 27; refine (covers_any _ _ _ _ _ _ _ _ _ _ _ _ _ hw).mono ?_; rintro e w1 ⟨rfl, hb⟩; rw [hc]; have F1 := j_facts hb; clear hb; obtain ⟨q0, q1, q2, q3, q4, q5, q6, q7, q8, q9, q10⟩ := F1.1.all; have p0 := F1.2.1.cell 0 _ rfl; have p1 := F1.2.1.cell 1 _ rfl; have r0 := F1.2.2.1.cell 0 _ rfl; have r1 := F1.2.2.1.cell 1 _ rfl; have f0 := F1.2.2.1.frozen 0; have f1 := F1.2.2.1.frozen 1)
    | (go_at_call 44; refine (of_any _ _).mono ?_; rintro e w' ⟨rfl, rfl⟩; (try rw [show ruleT x1 = 83 from hk_]))
    | (go_at_call 22; refine (jis_any _ _ _ _ _ _ _ _ _ _ _ _ _ _).mono ?_; rintro e w2 ⟨rfl, hb2⟩; rw [hJ]; clear q0 q1 q2 q3 q4 q5 q6 q7 q8 q9 q10 p0 p1 r0 r1 f0 f1; have F2 := j_more F1 hb2; clear hb2; obtain ⟨q0, q1, q2, q3, q4, q5, q6, q7, q8, q9, q10⟩ := F2.1.all; have p0 := F2.2.1.cell 0 _ rfl; have p1 := F2.2.1.cell 1 _ rfl; have r0 := F2.2.2.1.cell 0 _ rfl; have r1 := F2.2.2.1.cell 1 _ rfl; have f0 := F2.2.2.1.frozen 0; have f1 := F2.2.2.1.frozen 1)
    | go_in)
  show bodyPost _ _ _ Exit.ret _ (World.setCell (World.setCell ?W _ _) _ _)
  have g : Blk ?W (w.heap.size + 1 + 1) #[.int .i64 0, .int .i64 0] 25 ∧ Below w.heap.size w ?W := by
    constructor
    · with_reducible repeat (first | exact F1.2.2.1 | refine Blk.alloc ?_ _)
    · with_reducible repeat (first | exact F1.2.2.2 | refine below_alloc ?_ _)
  have x := j_put (.int .i64 (0)) (.int .i64 (0)) g.1 g.2 (by omega)
  have y0 := x.1.cell 0 _ rfl
  have y1 := x.1.cell 1 _ rfl
  refine bodyPost_ret (v := .tuple #[.agg #[.int .i64 (0), .int .i64 (0)], .int .i64 0, .int .i64 1]) (by simp [results, Try.results17, go_sem, y0, y1]) rfl ⟨rfl, x.2⟩
set_option maxRecDepth 100000 in
set_option maxHeartbeats 1000000 in
theorem leave_bad (x0 x1 x2 x3 x4 x5 x6 x7 x8 x9 x10 l i s : Int) (w : World) (hw : -9223372036854775808 ≤ s ∧ s ≤ 9223372036854775807) (b : Bool) (hc : coversR x0 x1 x2 x3 x4 x5 x6 x7 x8 x9 x10 s = (b, 0)) (hJ : jisB x0 x1 x2 x3 x4 x5 x6 x7 x8 x9 x10 l i = false) :
    Calls Try.prog 17 #[.agg #[.int .i64 x0, .int .i64 x1, .int .i64 x2, .int .i64 x3, .int .i64 x4, .int .i64 x5, .int .i64 x6, .int .i64 x7, .int .i64 x8, .int .i64 x9, .int .i64 x10], .agg #[.int .i64 l, .int .i64 i], .int .i64 s] w fun e w' => e = .returned (.tuple #[.agg #[.int .i64 (0), .int .i64 (0)], .int .i64 0, .int .i64 1]) ∧ Below w.heap.size w w' := by
  have hk_ := True.intro
  go_enter Try.func17, Try.ntmps17
  go_wp2_with (first
    | (go_at_call 27; refine (covers_any _ _ _ _ _ _ _ _ _ _ _ _ _ hw).mono ?_; rintro e w1 ⟨rfl, hb⟩; rw [hc]; have F1 := j_facts hb; clear hb; obtain ⟨q0, q1, q2, q3, q4, q5, q6, q7, q8, q9, q10⟩ := F1.1.all; have p0 := F1.2.1.cell 0 _ rfl; have p1 := F1.2.1.cell 1 _ rfl; have r0 := F1.2.2.1.cell 0 _ rfl; have r1 := F1.2.2.1.cell 1 _ rfl; have f0 := F1.2.2.1.frozen 0; have f1 := F1.2.2.1.frozen 1)
    | (go_at_call 44; refine (of_any _ _).mono ?_; rintro e w' ⟨rfl, rfl⟩; (try rw [show ruleT x1 = 83 from hk_]))
    | (go_at_call 22; refine (jis_any _ _ _ _ _ _ _ _ _ _ _ _ _ _).mono ?_; rintro e w2 ⟨rfl, hb2⟩; rw [hJ]; clear q0 q1 q2 q3 q4 q5 q6 q7 q8 q9 q10 p0 p1 r0 r1 f0 f1; have F2 := j_more F1 hb2; clear hb2; obtain ⟨q0, q1, q2, q3, q4, q5, q6, q7, q8, q9, q10⟩ := F2.1.all; have p0 := F2.2.1.cell 0 _ rfl; have p1 := F2.2.1.cell 1 _ rfl; have r0 := F2.2.2.1.cell 0 _ rfl; have r1 := F2.2.2.1.cell 1 _ rfl; have f0 := F2.2.2.1.frozen 0; have f1 := F2.2.2.1.frozen 1)
    | go_in)
  show bodyPost _ _ _ Exit.ret _ (World.setCell (World.setCell ?W _ _) _ _)
  have g : Blk ?W (w.heap.size + 1 + 1) #[.int .i64 0, .int .i64 0] 25 ∧ Below w.heap.size w ?W := by
    constructor
    · with_reducible repeat (first | exact F2.2.2.1 | refine Blk.alloc ?_ _)
    · with_reducible repeat (first | exact F2.2.2.2 | refine below_alloc ?_ _)
  have x := j_put (.int .i64 (0)) (.int .i64 (0)) g.1 g.2 (by omega)
  have y0 := x.1.cell 0 _ rfl
  have y1 := x.1.cell 1 _ rfl
  refine bodyPost_ret (v := .tuple #[.agg #[.int .i64 (0), .int .i64 (0)], .int .i64 0, .int .i64 1]) (by simp [results, Try.results17, go_sem, y0, y1]) rfl ⟨rfl, x.2⟩
set_option maxRecDepth 100000 in
set_option maxHeartbeats 1000000 in
theorem leave_place (x0 x1 x2 x3 x4 x5 x6 x7 x8 x9 x10 l i s : Int) (w : World) (hw : -9223372036854775808 ≤ s ∧ s ≤ 9223372036854775807) (hc : coversR x0 x1 x2 x3 x4 x5 x6 x7 x8 x9 x10 s = (false, 0)) (hJ : jisB x0 x1 x2 x3 x4 x5 x6 x7 x8 x9 x10 l i = true) :
    Calls Try.prog 17 #[.agg #[.int .i64 x0, .int .i64 x1, .int .i64 x2, .int .i64 x3, .int .i64 x4, .int .i64 x5, .int .i64 x6, .int .i64 x7, .int .i64 x8, .int .i64 x9, .int .i64 x10], .agg #[.int .i64 l, .int .i64 i], .int .i64 s] w fun e w' => e = .returned (.tuple #[.agg #[.int .i64 (l), .int .i64 (i)], .int .i64 9, .int .i64 0]) ∧ Below w.heap.size w w' := by
  have hk_ := True.intro
  go_enter Try.func17, Try.ntmps17
  go_wp2_with (first
    | (go_at_call 27; refine (covers_any _ _ _ _ _ _ _ _ _ _ _ _ _ hw).mono ?_; rintro e w1 ⟨rfl, hb⟩; rw [hc]; have F1 := j_facts hb; clear hb; obtain ⟨q0, q1, q2, q3, q4, q5, q6, q7, q8, q9, q10⟩ := F1.1.all; have p0 := F1.2.1.cell 0 _ rfl; have p1 := F1.2.1.cell 1 _ rfl; have r0 := F1.2.2.1.cell 0 _ rfl; have r1 := F1.2.2.1.cell 1 _ rfl; have f0 := F1.2.2.1.frozen 0; have f1 := F1.2.2.1.frozen 1)
    | (go_at_call 44; refine (of_any _ _).mono ?_; rintro e w' ⟨rfl, rfl⟩; (try rw [show ruleT x1 = 83 from hk_]))
    | (go_at_call 22; refine (jis_any _ _ _ _ _ _ _ _ _ _ _ _ _ _).mono ?_; rintro e w2 ⟨rfl, hb2⟩; rw [hJ]; clear q0 q1 q2 q3 q4 q5 q6 q7 q8 q9 q10 p0 p1 r0 r1 f0 f1; have F2 := j_more F1 hb2; clear hb2; obtain ⟨q0, q1, q2, q3, q4, q5, q6, q7, q8, q9, q10⟩ := F2.1.all; have p0 := F2.2.1.cell 0 _ rfl; have p1 := F2.2.1.cell 1 _ rfl; have r0 := F2.2.2.1.cell 0 _ rfl; have r1 := F2.2.2.1.cell 1 _ rfl; have f0 := F2.2.2.1.frozen 0; have f1 := F2.2.2.1.frozen 1)
    | go_in)
  show bodyPost _ _ _ Exit.ret _ (World.setCell (World.setCell ?W _ _) _ _)
  have g : Blk ?W (w.heap.size + 1 + 1) #[.int .i64 0, .int .i64 0] 25 ∧ Below w.heap.size w ?W := by
    constructor
    · with_reducible repeat (first | exact F2.2.2.1 | refine Blk.alloc ?_ _)
    · with_reducible repeat (first | exact F2.2.2.2 | refine below_alloc ?_ _)
  have x := j_put (.int .i64 (l)) (.int .i64 (i)) g.1 g.2 (by omega)
  have y0 := x.1.cell 0 _ rfl
  have y1 := x.1.cell 1 _ rfl
  refine bodyPost_ret (v := .tuple #[.agg #[.int .i64 (l), .int .i64 (i)], .int .i64 9, .int .i64 0]) (by simp [results, Try.results17, go_sem, y0, y1]) rfl ⟨rfl, x.2⟩
set_option maxRecDepth 100000 in
set_option maxHeartbeats 1000000 in
theorem leave_outside (x0 x1 x2 x3 x4 x5 x6 x7 x8 x9 x10 l s : Int) (w : World) (hw : -9223372036854775808 ≤ s ∧ s ≤ 9223372036854775807) (hc : coversR x0 x1 x2 x3 x4 x5 x6 x7 x8 x9 x10 s = (true, 0)) (hJ : jisB x0 x1 x2 x3 x4 x5 x6 x7 x8 x9 x10 l 0 = true) :
    Calls Try.prog 17 #[.agg #[.int .i64 x0, .int .i64 x1, .int .i64 x2, .int .i64 x3, .int .i64 x4, .int .i64 x5, .int .i64 x6, .int .i64 x7, .int .i64 x8, .int .i64 x9, .int .i64 x10], .agg #[.int .i64 l, .int .i64 0], .int .i64 s] w fun e w' => e = .returned (.tuple #[.agg #[.int .i64 (l), .int .i64 (0)], .int .i64 12, .int .i64 0]) ∧ Below w.heap.size w w' := by
  have hk_ := True.intro
  go_enter Try.func17, Try.ntmps17
  go_wp2_with (first
    | (go_at_call 27; refine (covers_any _ _ _ _ _ _ _ _ _ _ _ _ _ hw).mono ?_; rintro e w1 ⟨rfl, hb⟩; rw [hc]; have F1 := j_facts hb; clear hb; obtain ⟨q0, q1, q2, q3, q4, q5, q6, q7, q8, q9, q10⟩ := F1.1.all; have p0 := F1.2.1.cell 0 _ rfl; have p1 := F1.2.1.cell 1 _ rfl; have r0 := F1.2.2.1.cell 0 _ rfl; have r1 := F1.2.2.1.cell 1 _ rfl; have f0 := F1.2.2.1.frozen 0; have f1 := F1.2.2.1.frozen 1)
    | (go_at_call 44; refine (of_any _ _).mono ?_; rintro e w' ⟨rfl, rfl⟩; (try rw [show ruleT x1 = 83 from hk_]))
    | (go_at_call 22; refine (jis_any _ _ _ _ _ _ _ _ _ _ _ _ _ _).mono ?_; rintro e w2 ⟨rfl, hb2⟩; rw [hJ]; clear q0 q1 q2 q3 q4 q5 q6 q7 q8 q9 q10 p0 p1 r0 r1 f0 f1; have F2 := j_more F1 hb2; clear hb2; obtain ⟨q0, q1, q2, q3, q4, q5, q6, q7, q8, q9, q10⟩ := F2.1.all; have p0 := F2.2.1.cell 0 _ rfl; have p1 := F2.2.1.cell 1 _ rfl; have r0 := F2.2.2.1.cell 0 _ rfl; have r1 := F2.2.2.1.cell 1 _ rfl; have f0 := F2.2.2.1.frozen 0; have f1 := F2.2.2.1.frozen 1)
    | go_in)
  show bodyPost _ _ _ Exit.ret _ (World.setCell (World.setCell ?W _ _) _ _)
  have g : Blk ?W (w.heap.size + 1 + 1) #[.int .i64 0, .int .i64 0] 25 ∧ Below w.heap.size w ?W := by
    constructor
    · with_reducible repeat (first | exact F2.2.2.1 | refine Blk.alloc ?_ _)
    · with_reducible repeat (first | exact F2.2.2.2 | refine below_alloc ?_ _)
  have x := j_put (.int .i64 (l)) (.int .i64 (0)) g.1 g.2 (by omega)
  have y0 := x.1.cell 0 _ rfl
  have y1 := x.1.cell 1 _ rfl
  refine bodyPost_ret (v := .tuple #[.agg #[.int .i64 (l), .int .i64 (0)], .int .i64 12, .int .i64 0]) (by simp [results, Try.results17, go_sem, y0, y1]) rfl ⟨rfl, x.2⟩
set_option maxRecDepth 100000 in
set_option maxHeartbeats 1000000 in
theorem leave_single_ok (x0 x2 x3 x4 x5 x6 x7 x8 x9 x10 l i s : Int) (w : World) (hw : -9223372036854775808 ≤ s ∧ s ≤ 9223372036854775807) (hc : coversR x0 1 x2 x3 x4 x5 x6 x7 x8 x9 x10 s = (true, 0)) (hJ : jisB x0 1 x2 x3 x4 x5 x6 x7 x8 x9 x10 l i = true) (hi : i ≠ 0) (hge : 0 ≤ x3) (la : lisB (i - 1) = true) (le : lisB x3 = true) (ls : lisB s = true) (hwi : wrap64 (i - 1) = i - 1) (hb : decide (mn (i - 1) x3 ≤ s ∧ s ≤ mx (i - 1) x3) = true) :
    Calls Try.prog 17 #[.agg #[.int .i64 x0, .int .i64 1, .int .i64 x2, .int .i64 x3, .int .i64 x4, .int .i64 x5, .int .i64 x6, .int .i64 x7, .int .i64 x8, .int .i64 x9, .int .i64 x10], .agg #[.int .i64 l, .int .i64 i], .int .i64 s] w fun e w' => e = .returned (.tuple #[.agg #[.int .i64 (l), .int .i64 (0)], .int .i64 0, .int .i64 0]) ∧ Below w.heap.size w w' := by
  have hk_ : ruleT 1 = 85 := rfl
  have hi' : (i == 0) = false := beq_eq_false_iff_ne.2 hi
  go_enter Try.func17, Try.ntmps17
  go_wp2_with (first
    | (go_at_call 27; refine (covers_any _ _ _ _ _ _ _ _ _ _ _ _ _ hw).mono ?_; rintro e w1 ⟨rfl, hb⟩; rw [hc]; have F1 := j_facts hb; clear hb; obtain ⟨q0, q1, q2, q3, q4, q5, q6, q7, q8, q9, q10⟩ := F1.1.all; have p0 := F1.2.1.cell 0 _ rfl; have p1 := F1.2.1.cell 1 _ rfl; have r0 := F1.2.2.1.cell 0 _ rfl; have r1 := F1.2.2.1.cell 1 _ rfl; have f0 := F1.2.2.1.frozen 0; have f1 := F1.2.2.1.frozen 1)
    | (go_at_call 22; refine (jis_any _ _ _ _ _ _ _ _ _ _ _ _ _ _).mono ?_; rintro e w2 ⟨rfl, hb2⟩; rw [hJ]; clear q0 q1 q2 q3 q4 q5 q6 q7 q8 q9 q10 p0 p1 r0 r1 f0 f1; have F2 := j_more F1 hb2; clear hb2; obtain ⟨q0, q1, q2, q3, q4, q5, q6, q7, q8, q9, q10⟩ := F2.1.all; have p0 := F2.2.1.cell 0 _ rfl; have p1 := F2.2.1.cell 1 _ rfl; have r0 := F2.2.2.1.cell 0 _ rfl; have r1 := F2.2.2.1.cell 1 _ rfl; have f0 := F2.2.2.1.frozen 0; have f1 := F2.2.2.1.frozen 1)
    | go_in)
  go_still_tail 5, (by kernel_rfl)
  still_call ((of_any _ _).mono (fun e w' h => ⟨h.1, h.2.symm⟩))
  rw [hk_]
  repeat still_step
  refine wpStill_nil ?_
  change wpList _ _ _ _ _ w2.drew
  have F3 := (⟨blk_drew F2.1, blk_drew F2.2.1, blk_drew F2.2.2.1, below_drew F2.2.2.2⟩ : Blk w2.drew w.heap.size (tkA x0 1 x2 x3 x4 x5 x6 x7 x8 x9 x10) 23 ∧ Blk w2.drew (w.heap.size + 1) #[.int .i64 l, .int .i64 i] 25 ∧ Blk w2.drew (w.heap.size + 1 + 1) #[.int .i64 0, .int .i64 0] 25 ∧ Below w.heap.size w w2.drew)
  clear q0 q1 q2 q3 q4 q5 q6 q7 q8 q9 q10 p0 p1 r0 r1 f0 f1 F2
  generalize w2.drew = w3 at F3 ⊢
  go_wp2_with (first
    | (go_at_call 96; refine (end_single _ _ _ _ _ _ _ _ _ _ _ _ _ _).mono ?_; rintro e w4 ⟨rfl, hb4⟩; have F4 := j_more F3 hb4; clear hb4; obtain ⟨q0, q1, q2, q3, q4, q5, q6, q7, q8, q9, q10⟩ := F4.1.all; have p0 := F4.2.1.cell 0 _ rfl; have p1 := F4.2.1.cell 1 _ rfl; have r0 := F4.2.2.1.cell 0 _ rfl; have r1 := F4.2.2.1.cell 1 _ rfl; have f0 := F4.2.2.1.frozen 0; have f1 := F4.2.2.1.frozen 1)
    | (go_at_call 46; (try rw [hwi]); refine (between_in _ _ _ _ la le ls).mono ?_; rintro e w' ⟨rfl, rfl⟩; rw [hb])
    | go_in)
  show bodyPost _ _ _ Exit.ret _ (World.setCell (World.setCell ?W _ _) _ _)
  have g : Blk ?W (w.heap.size + 1 + 1) #[.int .i64 0, .int .i64 0] 25 ∧ Below w.heap.size w ?W := by
    constructor
    · with_reducible repeat (first | exact F4.2.2.1 | refine Blk.alloc ?_ _)
    · with_reducible repeat (first | exact F4.2.2.2 | refine below_alloc ?_ _)
  have x := j_put (.int .i64 (l)) (.int .i64 (0)) g.1 g.2 (by omega)
  have y0 := x.1.cell 0 _ rfl
  have y1 := x.1.cell 1 _ rfl
  refine bodyPost_ret (v := .tuple #[.agg #[.int .i64 (l), .int .i64 (0)], .int .i64 0, .int .i64 0]) (by simp [results, Try.results17, go_sem, y0, y1]) rfl ⟨rfl, x.2⟩
set_option maxRecDepth 100000 in
set_option maxHeartbeats 1000000 in
theorem leave_there_n_ok (x0 x2 x3 x4 x5 x6 x7 x8 x9 x10 l i s : Int) (w : World) (hw : -9223372036854775808 ≤ s ∧ s ≤ 9223372036854775807) (hc : coversR x0 2 x2 x3 x4 x5 x6 x7 x8 x9 x10 s = (true, 0)) (hJ : jisB x0 2 x2 x3 x4 x5 x6 x7 x8 x9 x10 l i = true) (hi : i ≠ 0) (hl : l ≠ 0) (hge : 0 ≤ x3) (la : lisB (i - 1) = true) (le : lisB x3 = true) (ls : lisB s = true) (hwi : wrap64 (i - 1) = i - 1) (hb : decide (mn (i - 1) x3 ≤ s ∧ s ≤ mx (i - 1) x3) = true) :
    Calls Try.prog 17 #[.agg #[.int .i64 x0, .int .i64 2, .int .i64 x2, .int .i64 x3, .int .i64 x4, .int .i64 x5, .int .i64 x6, .int .i64 x7, .int .i64 x8, .int .i64 x9, .int .i64 x10], .agg #[.int .i64 l, .int .i64 i], .int .i64 s] w fun e w' => e = .returned (.tuple #[.agg #[.int .i64 (l), .int .i64 (0)], .int .i64 0, .int .i64 0]) ∧ Below w.heap.size w w' := by
  have hk_ : ruleT 2 = 86 := rfl
  have hi' : (i == 0) = false := beq_eq_false_iff_ne.2 hi
  go_enter Try.func17, Try.ntmps17
  go_wp2_with (first
    | (go_at_call 27; refine (covers_any _ _ _ _ _ _ _ _ _ _ _ _ _ hw).mono ?_; rintro e w1 ⟨rfl, hb⟩; rw [hc]; have F1 := j_facts hb; clear hb; obtain ⟨q0, q1, q2, q3, q4, q5, q6, q7, q8, q9, q10⟩ := F1.1.all; have p0 := F1.2.1.cell 0 _ rfl; have p1 := F1.2.1.cell 1 _ rfl; have r0 := F1.2.2.1.cell 0 _ rfl; have r1 := F1.2.2.1.cell 1 _ rfl; have f0 := F1.2.2.1.frozen 0; have f1 := F1.2.2.1.frozen 1)
    | (go_at_call 22; refine (jis_any _ _ _ _ _ _ _ _ _ _ _ _ _ _).mono ?_; rintro e w2 ⟨rfl, hb2⟩; rw [hJ]; clear q0 q1 q2 q3 q4 q5 q6 q7 q8 q9 q10 p0 p1 r0 r1 f0 f1; have F2 := j_more F1 hb2; clear hb2; obtain ⟨q0, q1, q2, q3, q4, q5, q6, q7, q8, q9, q10⟩ := F2.1.all; have p0 := F2.2.1.cell 0 _ rfl; have p1 := F2.2.1.cell 1 _ rfl; have r0 := F2.2.2.1.cell 0 _ rfl; have r1 := F2.2.2.1.cell 1 _ rfl; have f0 := F2.2.2.1.frozen 0; have f1 := F2.2.2.1.frozen 1)
    | go_in)
  go_still_tail 5, (by kernel_rfl)
  still_call ((of_any _ _).mono (fun e w' h => ⟨h.1, h.2.symm⟩))
  rw [hk_]
  repeat still_step
  refine wpStill_nil ?_
  change wpList _ _ _ _ _ w2.drew
  have F3 := (⟨blk_drew F2.1, blk_drew F2.2.1, blk_drew F2.2.2.1, below_drew F2.2.2.2⟩ : Blk w2.drew w.heap.size (tkA x0 2 x2 x3 x4 x5 x6 x7 x8 x9 x10) 23 ∧ Blk w2.drew (w.heap.size + 1) #[.int .i64 l, .int .i64 i] 25 ∧ Blk w2.drew (w.heap.size + 1 + 1) #[.int .i64 0, .int .i64 0] 25 ∧ Below w.heap.size w w2.drew)
  clear q0 q1 q2 q3 q4 q5 q6 q7 q8 q9 q10 p0 p1 r0 r1 f0 f1 F2
  generalize w2.drew = w3 at F3 ⊢
  go_wp2_with (first
    | (go_at_call 97; refine (end_there_n _ _ _ _ _ _ _ _ _ _ _ _ _ _ hl).mono ?_; rintro e w4 ⟨rfl, hb4⟩; have F4 := j_more F3 hb4; clear hb4; obtain ⟨q0, q1, q2, q3, q4, q5, q6, q7, q8, q9, q10⟩ := F4.1.all; have p0 := F4.2.1.cell 0 _ rfl; have p1 := F4.2.1.cell 1 _ rfl; have r0 := F4.2.2.1.cell 0 _ rfl; have r1 := F4.2.2.1.cell 1 _ rfl; have f0 := F4.2.2.1.frozen 0; have f1 := F4.2.2.1.frozen 1)
    | (go_at_call 46; (try rw [hwi]); refine (between_in _ _ _ _ la le ls).mono ?_; rintro e w' ⟨rfl, rfl⟩; rw [hb])
    | go_in)
  show bodyPost _ _ _ Exit.ret _ (World.setCell (World.setCell ?W _ _) _ _)
  have g : Blk ?W (w.heap.size + 1 + 1) #[.int .i64 0, .int .i64 0] 25 ∧ Below w.heap.size w ?W := by
    constructor
    · with_reducible repeat (first | exact F4.2.2.1 | refine Blk.alloc ?_ _)
    · with_reducible repeat (first | exact F4.2.2.2 | refine below_alloc ?_ _)
  have x := j_put (.int .i64 (l)) (.int .i64 (0)) g.1 g.2 (by omega)
  have y0 := x.1.cell 0 _ rfl
  have y1 := x.1.cell 1 _ rfl
  refine bodyPost_ret (v := .tuple #[.agg #[.int .i64 (l), .int .i64 (0)], .int .i64 0, .int .i64 0]) (by simp [results, Try.results17, go_sem, y0, y1]) rfl ⟨rfl, x.2⟩
set_option maxRecDepth 100000 in
set_option maxHeartbeats 1000000 in
theorem leave_there_0_ok (x0 x2 x3 x4 x5 x6 x7 x8 x9 x10 i s : Int) (w : World) (hw : -9223372036854775808 ≤ s ∧ s ≤ 9223372036854775807) (hc : coversR x0 2 x2 x3 x4 x5 x6 x7 x8 x9 x10 s = (true, 0)) (hJ : jisB x0 2 x2 x3 x4 x5 x6 x7 x8 x9 x10 0 i = true) (hi : i ≠ 0) (hge : 0 ≤ x2) (la : lisB (i - 1) = true) (le : lisB x2 = true) (ls : lisB s = true) (hwi : wrap64 (i - 1) = i - 1) (hb : decide (mn (i - 1) x2 ≤ s ∧ s ≤ mx (i - 1) x2) = true) :
    Calls Try.prog 17 #[.agg #[.int .i64 x0, .int .i64 2, .int .i64 x2, .int .i64 x3, .int .i64 x4, .int .i64 x5, .int .i64 x6, .int .i64 x7, .int .i64 x8, .int .i64 x9, .int .i64 x10], .agg #[.int .i64 0, .int .i64 i], .int .i64 s] w fun e w' => e = .returned (.tuple #[.agg #[.int .i64 (0), .int .i64 (0)], .int .i64 0, .int .i64 0]) ∧ Below w.heap.size w w' := by
  have hk_ : ruleT 2 = 86 := rfl
  have hi' : (i == 0) = false := beq_eq_false_iff_ne.2 hi
  go_enter Try.func17, Try.ntmps17
  go_wp2_with (first
    | (go_at_call 27; refine (covers_any _ _ _ _ _ _ _ _ _ _ _ _ _ hw).mono ?_; rintro e w1 ⟨rfl, hb⟩; rw [hc]; have F1 := j_facts hb; clear hb; obtain ⟨q0, q1, q2, q3, q4, q5, q6, q7, q8, q9, q10⟩ := F1.1.all; have p0 := F1.2.1.cell 0 _ rfl; have p1 := F1.2.1.cell 1 _ rfl; have r0 := F1.2.2.1.cell 0 _ rfl; have r1 := F1.2.2.1.cell 1 _ rfl; have f0 := F1.2.2.1.frozen 0; have f1 := F1.2.2.1.frozen 1)
    | (go_at_call 22; refine (jis_any _ _ _ _ _ _ _ _ _ _ _ _ _ _).mono ?_; rintro e w2 ⟨rfl, hb2⟩; rw [hJ]; clear q0 q1 q2 q3 q4 q5 q6 q7 q8 q9 q10 p0 p1 r0 r1 f0 f1; have F2 := j_more F1 hb2; clear hb2; obtain ⟨q0, q1, q2, q3, q4, q5, q6, q7, q8, q9, q10⟩ := F2.1.all; have p0 := F2.2.1.cell 0 _ rfl; have p1 := F2.2.1.cell 1 _ rfl; have r0 := F2.2.2.1.cell 0 _ rfl; have r1 := F2.2.2.1.cell 1 _ rfl; have f0 := F2.2.2.1.frozen 0; have f1 := F2.2.2.1.frozen 1)
    | go_in)
  go_still_tail 5, (by kernel_rfl)
  still_call ((of_any _ _).mono (fun e w' h => ⟨h.1, h.2.symm⟩))
  rw [hk_]
  repeat still_step
  refine wpStill_nil ?_
  change wpList _ _ _ _ _ w2.drew
  have F3 := (⟨blk_drew F2.1, blk_drew F2.2.1, blk_drew F2.2.2.1, below_drew F2.2.2.2⟩ : Blk w2.drew w.heap.size (tkA x0 2 x2 x3 x4 x5 x6 x7 x8 x9 x10) 23 ∧ Blk w2.drew (w.heap.size + 1) #[.int .i64 0, .int .i64 i] 25 ∧ Blk w2.drew (w.heap.size + 1 + 1) #[.int .i64 0, .int .i64 0] 25 ∧ Below w.heap.size w w2.drew)
  clear q0 q1 q2 q3 q4 q5 q6 q7 q8 q9 q10 p0 p1 r0 r1 f0 f1 F2
  generalize w2.drew = w3 at F3 ⊢
  go_wp2_with (first
    | (go_at_call 97; refine (end_there_0 _ _ _ _ _ _ _ _ _ _ _ _ _).mono ?_; rintro e w4 ⟨rfl, hb4⟩; have F4 := j_more F3 hb4; clear hb4; obtain ⟨q0, q1, q2, q3, q4, q5, q6, q7, q8, q9, q10⟩ := F4.1.all; have p0 := F4.2.1.cell 0 _ rfl; have p1 := F4.2.1.cell 1 _ rfl; have r0 := F4.2.2.1.cell 0 _ rfl; have r1 := F4.2.2.1.cell 1 _ rfl; have f0 := F4.2.2.1.frozen 0; have f1 := F4.2.2.1.frozen 1)
    | (go_at_call 46; (try rw [hwi]); refine (between_in _ _ _ _ la le ls).mono ?_; rintro e w' ⟨rfl, rfl⟩; rw [hb])
    | go_in)
  show bodyPost _ _ _ Exit.ret _ (World.setCell (World.setCell ?W _ _) _ _)
  have g : Blk ?W (w.heap.size + 1 + 1) #[.int .i64 0, .int .i64 0] 25 ∧ Below w.heap.size w ?W := by
    constructor
    · with_reducible repeat (first | exact F4.2.2.1 | refine Blk.alloc ?_ _)
    · with_reducible repeat (first | exact F4.2.2.2 | refine below_alloc ?_ _)
  have x := j_put (.int .i64 (0)) (.int .i64 (0)) g.1 g.2 (by omega)
  have y0 := x.1.cell 0 _ rfl
  have y1 := x.1.cell 1 _ rfl
  refine bodyPost_ret (v := .tuple #[.agg #[.int .i64 (0), .int .i64 (0)], .int .i64 0, .int .i64 0]) (by simp [results, Try.results17, go_sem, y0, y1]) rfl ⟨rfl, x.2⟩
set_option maxRecDepth 100000 in
set_option maxHeartbeats 1000000 in
theorem leave_single_no (x0 x2 x3 x4 x5 x6 x7 x8 x9 x10 l i s : Int) (w : World) (hw : -9223372036854775808 ≤ s ∧ s ≤ 9223372036854775807) (hc : coversR x0 1 x2 x3 x4 x5 x6 x7 x8 x9 x10 s = (true, 0)) (hJ : jisB x0 1 x2 x3 x4 x5 x6 x7 x8 x9 x10 l i = true) (hi : i ≠ 0) (hge : 0 ≤ x3) (la : lisB (i - 1) = true) (le : lisB x3 = true) (ls : lisB s = true) (hwi : wrap64 (i - 1) = i - 1) (hb : decide (mn (i - 1) x3 ≤ s ∧ s ≤ mx (i - 1) x3) = false) :
    Calls Try.prog 17 #[.agg #[.int .i64 x0, .int .i64 1, .int .i64 x2, .int .i64 x3, .int .i64 x4, .int .i64 x5, .int .i64 x6, .int .i64 x7, .int .i64 x8, .int .i64 x9, .int .i64 x10], .agg #[.int .i64 l, .int .i64 i], .int .i64 s] w fun e w' => e = .returned (.tuple #[.agg #[.int .i64 (l), .int .i64 (i)], .int .i64 9, .int .i64 0]) ∧ Below w.heap.size w w' := by
  have hk_ : ruleT 1 = 85 := rfl
  have hi' : (i == 0) = false := beq_eq_false_iff_ne.2 hi
  go_enter Try.func17, Try.ntmps17
  go_wp2_with (first
    | (go_at_call 27; refine (covers_any _ _ _ _ _ _ _ _ _ _ _ _ _ hw).mono ?_; rintro e w1 ⟨rfl, hb⟩; rw [hc]; have F1 := j_facts hb; clear hb; obtain ⟨q0, q1, q2, q3, q4, q5, q6, q7, q8, q9, q10⟩ := F1.1.all; have p0 := F1.2.1.cell 0 _ rfl; have p1 := F1.2.1.cell 1 _ rfl; have r0 := F1.2.2.1.cell 0 _ rfl; have r1 := F1.2.2.1.cell 1 _ rfl; have f0 := F1.2.2.1.frozen 0; have f1 := F1.2.2.1.frozen 1)
    | (go_at_call 22; refine (jis_any _ _ _ _ _ _ _ _ _ _ _ _ _ _).mono ?_; rintro e w2 ⟨rfl, hb2⟩; rw [hJ]; clear q0 q1 q2 q3 q4 q5 q6 q7 q8 q9 q10 p0 p1 r0 r1 f0 f1; have F2 := j_more F1 hb2; clear hb2; obtain ⟨q0, q1, q2, q3, q4, q5, q6, q7, q8, q9, q10⟩ := F2.1.all; have p0 := F2.2.1.cell 0 _ rfl; have p1 := F2.2.1.cell 1 _ rfl; have r0 := F2.2.2.1.cell 0 _ rfl; have r1 := F2.2.2.1.cell 1 _ rfl; have f0 := F2.2.2.1.frozen 0; have f1 := F2.2.2.1.frozen 1)
    | go_in)
  go_still_tail 5, (by kernel_rfl)
  still_call ((of_any _ _).mono (fun e w' h => ⟨h.1, h.2.symm⟩))
  rw [hk_]
  repeat still_step
  refine wpStill_nil ?_
  change wpList _ _ _ _ _ w2.drew
  have F3 := (⟨blk_drew F2.1, blk_drew F2.2.1, blk_drew F2.2.2.1, below_drew F2.2.2.2⟩ : Blk w2.drew w.heap.size (tkA x0 1 x2 x3 x4 x5 x6 x7 x8 x9 x10) 23 ∧ Blk w2.drew (w.heap.size + 1) #[.int .i64 l, .int .i64 i] 25 ∧ Blk w2.drew (w.heap.size + 1 + 1) #[.int .i64 0, .int .i64 0] 25 ∧ Below w.heap.size w w2.drew)
  clear q0 q1 q2 q3 q4 q5 q6 q7 q8 q9 q10 p0 p1 r0 r1 f0 f1 F2
  generalize w2.drew = w3 at F3 ⊢
  go_wp2_with (first
    | (go_at_call 96; refine (end_single _ _ _ _ _ _ _ _ _ _ _ _ _ _).mono ?_; rintro e w4 ⟨rfl, hb4⟩; have F4 := j_more F3 hb4; clear hb4; obtain ⟨q0, q1, q2, q3, q4, q5, q6, q7, q8, q9, q10⟩ := F4.1.all; have p0 := F4.2.1.cell 0 _ rfl; have p1 := F4.2.1.cell 1 _ rfl; have r0 := F4.2.2.1.cell 0 _ rfl; have r1 := F4.2.2.1.cell 1 _ rfl; have f0 := F4.2.2.1.frozen 0; have f1 := F4.2.2.1.frozen 1)
    | (go_at_call 46; (try rw [hwi]); refine (between_in _ _ _ _ la le ls).mono ?_; rintro e w' ⟨rfl, rfl⟩; rw [hb])
    | go_in)
  show bodyPost _ _ _ Exit.ret _ (World.setCell (World.setCell ?W _ _) _ _)
  have g : Blk ?W (w.heap.size + 1 + 1) #[.int .i64 0, .int .i64 0] 25 ∧ Below w.heap.size w ?W := by
    constructor
    · with_reducible repeat (first | exact F4.2.2.1 | refine Blk.alloc ?_ _)
    · with_reducible repeat (first | exact F4.2.2.2 | refine below_alloc ?_ _)
  have x := j_put (.int .i64 (l)) (.int .i64 (i)) g.1 g.2 (by omega)
  have y0 := x.1.cell 0 _ rfl
  have y1 := x.1.cell 1 _ rfl
  refine bodyPost_ret (v := .tuple #[.agg #[.int .i64 (l), .int .i64 (i)], .int .i64 9, .int .i64 0]) (by simp [results, Try.results17, go_sem, y0, y1]) rfl ⟨rfl, x.2⟩
set_option maxRecDepth 100000 in
set_option maxHeartbeats 1000000 in
theorem leave_there_n_no (x0 x2 x3 x4 x5 x6 x7 x8 x9 x10 l i s : Int) (w : World) (hw : -9223372036854775808 ≤ s ∧ s ≤ 9223372036854775807) (hc : coversR x0 2 x2 x3 x4 x5 x6 x7 x8 x9 x10 s = (true, 0)) (hJ : jisB x0 2 x2 x3 x4 x5 x6 x7 x8 x9 x10 l i = true) (hi : i ≠ 0) (hl : l ≠ 0) (hge : 0 ≤ x3) (la : lisB (i - 1) = true) (le : lisB x3 = true) (ls : lisB s = true) (hwi : wrap64 (i - 1) = i - 1) (hb : decide (mn (i - 1) x3 ≤ s ∧ s ≤ mx (i - 1) x3) = false) :
    Calls Try.prog 17 #[.agg #[.int .i64 x0, .int .i64 2, .int .i64 x2, .int .i64 x3, .int .i64 x4, .int .i64 x5, .int .i64 x6, .int .i64 x7, .int .i64 x8, .int .i64 x9, .int .i64 x10], .agg #[.int .i64 l, .int .i64 i], .int .i64 s] w fun e w' => e = .returned (.tuple #[.agg #[.int .i64 (l), .int .i64 (i)], .int .i64 9, .int .i64 0]) ∧ Below w.heap.size w w' := by
  have hk_ : ruleT 2 = 86 := rfl
  have hi' : (i == 0) = false := beq_eq_false_iff_ne.2 hi
  go_enter Try.func17, Try.ntmps17
  go_wp2_with (first
    | (go_at_call 27; refine (covers_any _ _ _ _ _ _ _ _ _ _ _ _ _ hw).mono ?_; rintro e w1 ⟨rfl, hb⟩; rw [hc]; have F1 := j_facts hb; clear hb; obtain ⟨q0, q1, q2, q3, q4, q5, q6, q7, q8, q9, q10⟩ := F1.1.all; have p0 := F1.2.1.cell 0 _ rfl; have p1 := F1.2.1.cell 1 _ rfl; have r0 := F1.2.2.1.cell 0 _ rfl; have r1 := F1.2.2.1.cell 1 _ rfl; have f0 := F1.2.2.1.frozen 0; have f1 := F1.2.2.1.frozen 1)
    | (go_at_call 22; refine (jis_any _ _ _ _ _ _ _ _ _ _ _ _ _ _).mono ?_; rintro e w2 ⟨rfl, hb2⟩; rw [hJ]; clear q0 q1 q2 q3 q4 q5 q6 q7 q8 q9 q10 p0 p1 r0 r1 f0 f1; have F2 := j_more F1 hb2; clear hb2; obtain ⟨q0, q1, q2, q3, q4, q5, q6, q7, q8, q9, q10⟩ := F2.1.all; have p0 := F2.2.1.cell 0 _ rfl; have p1 := F2.2.1.cell 1 _ rfl; have r0 := F2.2.2.1.cell 0 _ rfl; have r1 := F2.2.2.1.cell 1 _ rfl; have f0 := F2.2.2.1.frozen 0; have f1 := F2.2.2.1.frozen 1)
    | go_in)
  go_still_tail 5, (by kernel_rfl)
  still_call ((of_any _ _).mono (fun e w' h => ⟨h.1, h.2.symm⟩))
  rw [hk_]
  repeat still_step
  refine wpStill_nil ?_
  change wpList _ _ _ _ _ w2.drew
  have F3 := (⟨blk_drew F2.1, blk_drew F2.2.1, blk_drew F2.2.2.1, below_drew F2.2.2.2⟩ : Blk w2.drew w.heap.size (tkA x0 2 x2 x3 x4 x5 x6 x7 x8 x9 x10) 23 ∧ Blk w2.drew (w.heap.size + 1) #[.int .i64 l, .int .i64 i] 25 ∧ Blk w2.drew (w.heap.size + 1 + 1) #[.int .i64 0, .int .i64 0] 25 ∧ Below w.heap.size w w2.drew)
  clear q0 q1 q2 q3 q4 q5 q6 q7 q8 q9 q10 p0 p1 r0 r1 f0 f1 F2
  generalize w2.drew = w3 at F3 ⊢
  go_wp2_with (first
    | (go_at_call 97; refine (end_there_n _ _ _ _ _ _ _ _ _ _ _ _ _ _ hl).mono ?_; rintro e w4 ⟨rfl, hb4⟩; have F4 := j_more F3 hb4; clear hb4; obtain ⟨q0, q1, q2, q3, q4, q5, q6, q7, q8, q9, q10⟩ := F4.1.all; have p0 := F4.2.1.cell 0 _ rfl; have p1 := F4.2.1.cell 1 _ rfl; have r0 := F4.2.2.1.cell 0 _ rfl; have r1 := F4.2.2.1.cell 1 _ rfl; have f0 := F4.2.2.1.frozen 0; have f1 := F4.2.2.1.frozen 1)
    | (go_at_call 46; (try rw [hwi]); refine (between_in _ _ _ _ la le ls).mono ?_; rintro e w' ⟨rfl, rfl⟩; rw [hb])
    | go_in)
  show bodyPost _ _ _ Exit.ret _ (World.setCell (World.setCell ?W _ _) _ _)
  have g : Blk ?W (w.heap.size + 1 + 1) #[.int .i64 0, .int .i64 0] 25 ∧ Below w.heap.size w ?W := by
    constructor
    · with_reducible repeat (first | exact F4.2.2.1 | refine Blk.alloc ?_ _)
    · with_reducible repeat (first | exact F4.2.2.2 | refine below_alloc ?_ _)
  have x := j_put (.int .i64 (l)) (.int .i64 (i)) g.1 g.2 (by omega)
  have y0 := x.1.cell 0 _ rfl
  have y1 := x.1.cell 1 _ rfl
  refine bodyPost_ret (v := .tuple #[.agg #[.int .i64 (l), .int .i64 (i)], .int .i64 9, .int .i64 0]) (by simp [results, Try.results17, go_sem, y0, y1]) rfl ⟨rfl, x.2⟩
set_option maxRecDepth 100000 in
set_option maxHeartbeats 1000000 in
theorem leave_there_0_no (x0 x2 x3 x4 x5 x6 x7 x8 x9 x10 i s : Int) (w : World) (hw : -9223372036854775808 ≤ s ∧ s ≤ 9223372036854775807) (hc : coversR x0 2 x2 x3 x4 x5 x6 x7 x8 x9 x10 s = (true, 0)) (hJ : jisB x0 2 x2 x3 x4 x5 x6 x7 x8 x9 x10 0 i = true) (hi : i ≠ 0) (hge : 0 ≤ x2) (la : lisB (i - 1) = true) (le : lisB x2 = true) (ls : lisB s = true) (hwi : wrap64 (i - 1) = i - 1) (hb : decide (mn (i - 1) x2 ≤ s ∧ s ≤ mx (i - 1) x2) = false) :
    Calls Try.prog 17 #[.agg #[.int .i64 x0, .int .i64 2, .int .i64 x2, .int .i64 x3, .int .i64 x4, .int .i64 x5, .int .i64 x6, .int .i64 x7, .int .i64 x8, .int .i64 x9, .int .i64 x10], .agg #[.int .i64 0, .int .i64 i], .int .i64 s] w fun e w' => e = .returned (.tuple #[.agg #[.int .i64 (0), .int .i64 (i)], .int .i64 9, .int .i64 0]) ∧ Below w.heap.size w w' := by
  have hk_ : ruleT 2 = 86 := rfl
  have hi' : (i == 0) = false := beq_eq_false_iff_ne.2 hi
  go_enter Try.func17, Try.ntmps17
  go_wp2_with (first
    | (go_at_call 27; refine (covers_any _ _ _ _ _ _ _ _ _ _ _ _ _ hw).mono ?_; rintro e w1 ⟨rfl, hb⟩; rw [hc]; have F1 := j_facts hb; clear hb; obtain ⟨q0, q1, q2, q3, q4, q5, q6, q7, q8, q9, q10⟩ := F1.1.all; have p0 := F1.2.1.cell 0 _ rfl; have p1 := F1.2.1.cell 1 _ rfl; have r0 := F1.2.2.1.cell 0 _ rfl; have r1 := F1.2.2.1.cell 1 _ rfl; have f0 := F1.2.2.1.frozen 0; have f1 := F1.2.2.1.frozen 1)
    | (go_at_call 22; refine (jis_any _ _ _ _ _ _ _ _ _ _ _ _ _ _).mono ?_; rintro e w2 ⟨rfl, hb2⟩; rw [hJ]; clear q0 q1 q2 q3 q4 q5 q6 q7 q8 q9 q10 p0 p1 r0 r1 f0 f1; have F2 := j_more F1 hb2; clear hb2; obtain ⟨q0, q1, q2, q3, q4, q5, q6, q7, q8, q9, q10⟩ := F2.1.all; have p0 := F2.2.1.cell 0 _ rfl; have p1 := F2.2.1.cell 1 _ rfl; have r0 := F2.2.2.1.cell 0 _ rfl; have r1 := F2.2.2.1.cell 1 _ rfl; have f0 := F2.2.2.1.frozen 0; have f1 := F2.2.2.1.frozen 1)
    | go_in)
  go_still_tail 5, (by kernel_rfl)
  still_call ((of_any _ _).mono (fun e w' h => ⟨h.1, h.2.symm⟩))
  rw [hk_]
  repeat still_step
  refine wpStill_nil ?_
  change wpList _ _ _ _ _ w2.drew
  have F3 := (⟨blk_drew F2.1, blk_drew F2.2.1, blk_drew F2.2.2.1, below_drew F2.2.2.2⟩ : Blk w2.drew w.heap.size (tkA x0 2 x2 x3 x4 x5 x6 x7 x8 x9 x10) 23 ∧ Blk w2.drew (w.heap.size + 1) #[.int .i64 0, .int .i64 i] 25 ∧ Blk w2.drew (w.heap.size + 1 + 1) #[.int .i64 0, .int .i64 0] 25 ∧ Below w.heap.size w w2.drew)
  clear q0 q1 q2 q3 q4 q5 q6 q7 q8 q9 q10 p0 p1 r0 r1 f0 f1 F2
  generalize w2.drew = w3 at F3 ⊢
  go_wp2_with (first
    | (go_at_call 97; refine (end_there_0 _ _ _ _ _ _ _ _ _ _ _ _ _).mono ?_; rintro e w4 ⟨rfl, hb4⟩; have F4 := j_more F3 hb4; clear hb4; obtain ⟨q0, q1, q2, q3, q4, q5, q6, q7, q8, q9, q10⟩ := F4.1.all; have p0 := F4.2.1.cell 0 _ rfl; have p1 := F4.2.1.cell 1 _ rfl; have r0 := F4.2.2.1.cell 0 _ rfl; have r1 := F4.2.2.1.cell 1 _ rfl; have f0 := F4.2.2.1.frozen 0; have f1 := F4.2.2.1.frozen 1)
    | (go_at_call 46; (try rw [hwi]); refine (between_in _ _ _ _ la le ls).mono ?_; rintro e w' ⟨rfl, rfl⟩; rw [hb])
    | go_in)
  show bodyPost _ _ _ Exit.ret _ (World.setCell (World.setCell ?W _ _) _ _)
  have g : Blk ?W (w.heap.size + 1 + 1) #[.int .i64 0, .int .i64 0] 25 ∧ Below w.heap.size w ?W := by
    constructor
    · with_reducible repeat (first | exact F4.2.2.1 | refine Blk.alloc ?_ _)
    · with_reducible repeat (first | exact F4.2.2.2 | refine below_alloc ?_ _)
  have x := j_put (.int .i64 (0)) (.int .i64 (i)) g.1 g.2 (by omega)
  have y0 := x.1.cell 0 _ rfl
  have y1 := x.1.cell 1 _ rfl
  refine bodyPost_ret (v := .tuple #[.agg #[.int .i64 (0), .int .i64 (i)], .int .i64 9, .int .i64 0]) (by simp [results, Try.results17, go_sem, y0, y1]) rfl ⟨rfl, x.2⟩
set_option maxRecDepth 100000 in
set_option maxHeartbeats 1000000 in
theorem leave_legs (x0 x1 x2 x3 x4 x5 x6 x7 x8 x9 x10 l i s : Int) (w : World) (hw : -9223372036854775808 ≤ s ∧ s ≤ 9223372036854775807) (hc : coversR x0 x1 x2 x3 x4 x5 x6 x7 x8 x9 x10 s = (true, 0)) (hJ : jisB x0 x1 x2 x3 x4 x5 x6 x7 x8 x9 x10 l i = true) (hi : i ≠ 0) (h1 : x1 ≠ 1) (h2 : x1 ≠ 2) (h3 : x1 ≠ 3) :
    Calls Try.prog 17 #[.agg #[.int .i64 x0, .int .i64 x1, .int .i64 x2, .int .i64 x3, .int .i64 x4, .int .i64 x5, .int .i64 x6, .int .i64 x7, .int .i64 x8, .int .i64 x9, .int .i64 x10], .agg #[.int .i64 l, .int .i64 i], .int .i64 s] w fun e w' => e = .returned (.tuple #[.agg #[.int .i64 (l), .int .i64 (0)], .int .i64 0, .int .i64 0]) ∧ Below w.heap.size w w' := by
  have hk_ : ruleT x1 = 83 := by unfold ruleT; simp [*]
  have hi' : (i == 0) = false := beq_eq_false_iff_ne.2 hi
  go_enter Try.func17, Try.ntmps17
  go_wp2_with (first
    | (go_at_call 27; refine (covers_any _ _ _ _ _ _ _ _ _ _ _ _ _ hw).mono ?_; rintro e w1 ⟨rfl, hb⟩; rw [hc]; have F1 := j_facts hb; clear hb; obtain ⟨q0, q1, q2, q3, q4, q5, q6, q7, q8, q9, q10⟩ := F1.1.all; have p0 := F1.2.1.cell 0 _ rfl; have p1 := F1.2.1.cell 1 _ rfl; have r0 := F1.2.2.1.cell 0 _ rfl; have r1 := F1.2.2.1.cell 1 _ rfl; have f0 := F1.2.2.1.frozen 0; have f1 := F1.2.2.1.frozen 1)
    | (go_at_call 22; refine (jis_any _ _ _ _ _ _ _ _ _ _ _ _ _ _).mono ?_; rintro e w2 ⟨rfl, hb2⟩; rw [hJ]; clear q0 q1 q2 q3 q4 q5 q6 q7 q8 q9 q10 p0 p1 r0 r1 f0 f1; have F2 := j_more F1 hb2; clear hb2; obtain ⟨q0, q1, q2, q3, q4, q5, q6, q7, q8, q9, q10⟩ := F2.1.all; have p0 := F2.2.1.cell 0 _ rfl; have p1 := F2.2.1.cell 1 _ rfl; have r0 := F2.2.2.1.cell 0 _ rfl; have r1 := F2.2.2.1.cell 1 _ rfl; have f0 := F2.2.2.1.frozen 0; have f1 := F2.2.2.1.frozen 1)
    | go_in)
  go_still_tail 5, (by kernel_rfl)
  still_call ((of_any _ _).mono (fun e w' h => ⟨h.1, h.2.symm⟩))
  rw [hk_]
  repeat still_step
  refine wpStill_nil ?_
  change wpList _ _ _ _ _ w2.drew
  have F3 := (⟨blk_drew F2.1, blk_drew F2.2.1, blk_drew F2.2.2.1, below_drew F2.2.2.2⟩ : Blk w2.drew w.heap.size (tkA x0 x1 x2 x3 x4 x5 x6 x7 x8 x9 x10) 23 ∧ Blk w2.drew (w.heap.size + 1) #[.int .i64 l, .int .i64 i] 25 ∧ Blk w2.drew (w.heap.size + 1 + 1) #[.int .i64 0, .int .i64 0] 25 ∧ Below w.heap.size w w2.drew)
  clear q0 q1 q2 q3 q4 q5 q6 q7 q8 q9 q10 p0 p1 r0 r1 f0 f1 F2
  generalize w2.drew = w3 at F3 ⊢
  go_wp2_with (first
    | (go_at_call 93; refine (end_legs _ _ _ _ _ _ _ _ _ _ _ _ _ _).mono ?_; rintro e w4 ⟨rfl, hb4⟩; have F4 := j_more F3 hb4; clear hb4; obtain ⟨q0, q1, q2, q3, q4, q5, q6, q7, q8, q9, q10⟩ := F4.1.all; have p0 := F4.2.1.cell 0 _ rfl; have p1 := F4.2.1.cell 1 _ rfl; have r0 := F4.2.2.1.cell 0 _ rfl; have r1 := F4.2.2.1.cell 1 _ rfl; have f0 := F4.2.2.1.frozen 0; have f1 := F4.2.2.1.frozen 1)
    | go_in)
  show bodyPost _ _ _ Exit.ret _ (World.setCell (World.setCell ?W _ _) _ _)
  have g : Blk ?W (w.heap.size + 1 + 1) #[.int .i64 0, .int .i64 0] 25 ∧ Below w.heap.size w ?W := by
    constructor
    · with_reducible repeat (first | exact F4.2.2.1 | refine Blk.alloc ?_ _)
    · with_reducible repeat (first | exact F4.2.2.2 | refine below_alloc ?_ _)
  have x := j_put (.int .i64 (l)) (.int .i64 (0)) g.1 g.2 (by omega)
  have y0 := x.1.cell 0 _ rfl
  have y1 := x.1.cell 1 _ rfl
  refine bodyPost_ret (v := .tuple #[.agg #[.int .i64 (l), .int .i64 (0)], .int .i64 0, .int .i64 0]) (by simp [results, Try.results17, go_sem, y0, y1]) rfl ⟨rfl, x.2⟩
set_option maxRecDepth 100000 in
set_option maxHeartbeats 1000000 in
theorem leave_season (x0 x2 x3 x4 x5 x6 x7 x8 x9 x10 l i s : Int) (w : World) (hw : -9223372036854775808 ≤ s ∧ s ≤ 9223372036854775807) (hc : coversR x0 3 x2 x3 x4 x5 x6 x7 x8 x9 x10 s = (true, 0)) (hJ : jisB x0 3 x2 x3 x4 x5 x6 x7 x8 x9 x10 l i = true) (hi : i ≠ 0)  :
    Calls Try.prog 17 #[.agg #[.int .i64 x0, .int .i64 3, .int .i64 x2, .int .i64 x3, .int .i64 x4, .int .i64 x5, .int .i64 x6, .int .i64 x7, .int .i64 x8, .int .i64 x9, .int .i64 x10], .agg #[.int .i64 l, .int .i64 i], .int .i64 s] w fun e w' => e = .returned (.tuple #[.agg #[.int .i64 (l), .int .i64 (0)], .int .i64 0, .int .i64 0]) ∧ Below w.heap.size w w' := by
  have hk_ : ruleT 3 = 87 := rfl
  have hi' : (i == 0) = false := beq_eq_false_iff_ne.2 hi
  go_enter Try.func17, Try.ntmps17
  go_wp2_with (first
    | (go_at_call 27; refine (covers_any _ _ _ _ _ _ _ _ _ _ _ _ _ hw).mono ?_; rintro e w1 ⟨rfl, hb⟩; rw [hc]; have F1 := j_facts hb; clear hb; obtain ⟨q0, q1, q2, q3, q4, q5, q6, q7, q8, q9, q10⟩ := F1.1.all; have p0 := F1.2.1.cell 0 _ rfl; have p1 := F1.2.1.cell 1 _ rfl; have r0 := F1.2.2.1.cell 0 _ rfl; have r1 := F1.2.2.1.cell 1 _ rfl; have f0 := F1.2.2.1.frozen 0; have f1 := F1.2.2.1.frozen 1)
    | (go_at_call 22; refine (jis_any _ _ _ _ _ _ _ _ _ _ _ _ _ _).mono ?_; rintro e w2 ⟨rfl, hb2⟩; rw [hJ]; clear q0 q1 q2 q3 q4 q5 q6 q7 q8 q9 q10 p0 p1 r0 r1 f0 f1; have F2 := j_more F1 hb2; clear hb2; obtain ⟨q0, q1, q2, q3, q4, q5, q6, q7, q8, q9, q10⟩ := F2.1.all; have p0 := F2.2.1.cell 0 _ rfl; have p1 := F2.2.1.cell 1 _ rfl; have r0 := F2.2.2.1.cell 0 _ rfl; have r1 := F2.2.2.1.cell 1 _ rfl; have f0 := F2.2.2.1.frozen 0; have f1 := F2.2.2.1.frozen 1)
    | go_in)
  go_still_tail 5, (by kernel_rfl)
  still_call ((of_any _ _).mono (fun e w' h => ⟨h.1, h.2.symm⟩))
  rw [hk_]
  repeat still_step
  refine wpStill_nil ?_
  change wpList _ _ _ _ _ w2.drew
  have F3 := (⟨blk_drew F2.1, blk_drew F2.2.1, blk_drew F2.2.2.1, below_drew F2.2.2.2⟩ : Blk w2.drew w.heap.size (tkA x0 3 x2 x3 x4 x5 x6 x7 x8 x9 x10) 23 ∧ Blk w2.drew (w.heap.size + 1) #[.int .i64 l, .int .i64 i] 25 ∧ Blk w2.drew (w.heap.size + 1 + 1) #[.int .i64 0, .int .i64 0] 25 ∧ Below w.heap.size w w2.drew)
  clear q0 q1 q2 q3 q4 q5 q6 q7 q8 q9 q10 p0 p1 r0 r1 f0 f1 F2
  generalize w2.drew = w3 at F3 ⊢
  go_wp2_with (first
    | (go_at_call 98; refine (end_season _ _ _ _ _ _ _ _ _ _ _ _ _ _).mono ?_; rintro e w4 ⟨rfl, hb4⟩; have F4 := j_more F3 hb4; clear hb4; obtain ⟨q0, q1, q2, q3, q4, q5, q6, q7, q8, q9, q10⟩ := F4.1.all; have p0 := F4.2.1.cell 0 _ rfl; have p1 := F4.2.1.cell 1 _ rfl; have r0 := F4.2.2.1.cell 0 _ rfl; have r1 := F4.2.2.1.cell 1 _ rfl; have f0 := F4.2.2.1.frozen 0; have f1 := F4.2.2.1.frozen 1)
    | go_in)
  show bodyPost _ _ _ Exit.ret _ (World.setCell (World.setCell ?W _ _) _ _)
  have g : Blk ?W (w.heap.size + 1 + 1) #[.int .i64 0, .int .i64 0] 25 ∧ Below w.heap.size w ?W := by
    constructor
    · with_reducible repeat (first | exact F4.2.2.1 | refine Blk.alloc ?_ _)
    · with_reducible repeat (first | exact F4.2.2.2 | refine below_alloc ?_ _)
  have x := j_put (.int .i64 (l)) (.int .i64 (0)) g.1 g.2 (by omega)
  have y0 := x.1.cell 0 _ rfl
  have y1 := x.1.cell 1 _ rfl
  refine bodyPost_ret (v := .tuple #[.agg #[.int .i64 (l), .int .i64 (0)], .int .i64 0, .int .i64 0]) (by simp [results, Try.results17, go_sem, y0, y1]) rfl ⟨rfl, x.2⟩
end Go.Proofs.Ytdiijjdhofaodaa.G
end
section
namespace Go.Proofs.Ytdiijjdhofaodaa.G
open Go Go.RowKit Go.Proofs.YtdiijjdhofaodaaW.PrintWords Go.Proofs.YtdiijjdhofaodaaW.PrintLast Go.Proofs.YtdiijjdhofaodaaW.PrintMore
theorem isB_usesB {x0 x1 x2 x3 x4 x5 x6 x7 x8 x9 x10 : Int} (h : isB x0 x1 x2 x3 x4 x5 x6 x7 x8 x9 x10 = true) : usesB x1 x9 = true := by
  unfold isB at h
  simp only [Bool.and_eq_true] at h
  exact h.2
theorem isB_uses {x0 x1 x2 x3 x4 x5 x6 x7 x8 x9 x10 : Int} (h : isB x0 x1 x2 x3 x4 x5 x6 x7 x8 x9 x10 = true) : 0 ≤ x9 ∧ x9 ≤ 20 := by
  have hu : usesB x1 x9 = true := isB_usesB h
  unfold usesB at hu
  by_cases h1 : x1 = 1
  · rw [if_pos h1] at hu; have := beq_iff_eq.1 hu; omega
  by_cases h2 : x1 = 2
  · rw [if_neg h1, if_pos h2] at hu; have := beq_iff_eq.1 hu; omega
  by_cases h3 : x1 = 3
  · rw [if_neg h1, if_neg h2, if_pos h3] at hu; have := beq_iff_eq.1 hu; omega
  · rw [if_neg h1, if_neg h2, if_neg h3] at hu; unfold betw at hu; have := of_decide_eq_true hu; omega
theorem jisB_facts {x0 x1 x2 x3 x4 x5 x6 x7 x8 x9 x10 l i : Int} (h : jisB x0 x1 x2 x3 x4 x5 x6 x7 x8 x9 x10 l i = true) : isB x0 x1 x2 x3 x4 x5 x6 x7 x8 x9 x10 = true ∧ 0 ≤ l ∧ l ≤ x9 ∧ 0 ≤ i ∧ i ≤ 40 ∧ x9 ≤ 20 := by
  unfold jisB suitsB at h
  simp only [Bool.and_eq_true, decide_eq_true_eq] at h
  have := isB_uses h.1.1
  exact ⟨h.1.1, h.1.2.1.1.1, h.1.2.1.1.2, h.1.2.1.2, h.1.2.2, this.2⟩
theorem coversR_cases (x0 x1 x2 x3 x4 x5 x6 x7 x8 x9 x10 s : Int) : coversR x0 x1 x2 x3 x4 x5 x6 x7 x8 x9 x10 s = (false, 1) ∨ ((coversR x0 x1 x2 x3 x4 x5 x6 x7 x8 x9 x10 s).2 = 0 ∧ 0 ≤ s ∧ s < 40) := by
  unfold coversR
  by_cases h : isB x0 x1 x2 x3 x4 x5 x6 x7 x8 x9 x10 = true ∧ 0 ≤ s ∧ s < 40
  · rw [if_pos h]; exact .inr ⟨rfl, h.2⟩
  · rw [if_neg h]; exact .inl rfl
def enterR (x0 x1 x2 x3 x4 x5 x6 x7 x8 x9 x10 l i s : Int) : Int × Int × Int × Int :=
  if (coversR x0 x1 x2 x3 x4 x5 x6 x7 x8 x9 x10 s).2 = 0 ∧ jisB x0 x1 x2 x3 x4 x5 x6 x7 x8 x9 x10 l i = true then (if (coversR x0 x1 x2 x3 x4 x5 x6 x7 x8 x9 x10 s).1 = true then (if i = 0 then (if x1 = 3 then (0, s + 1, 0, 0) else (if 0 < l then (l - 1, s + 1, 0, 0) else (l, i, 10, 0))) else (l, i, 11, 0)) else (l, i, 9, 0)) else (0, 0, 0, 1)
theorem enter_any (x0 x1 x2 x3 x4 x5 x6 x7 x8 x9 x10 l i s : Int) (w : World) (hw : -9223372036854775808 ≤ s ∧ s ≤ 9223372036854775807) :
    Calls Try.prog 15 #[.agg #[.int .i64 x0, .int .i64 x1, .int .i64 x2, .int .i64 x3, .int .i64 x4, .int .i64 x5, .int .i64 x6, .int .i64 x7, .int .i64 x8, .int .i64 x9, .int .i64 x10], .agg #[.int .i64 l, .int .i64 i], .int .i64 s] w fun e w' => e = .returned (.tuple #[.agg #[.int .i64 (enterR x0 x1 x2 x3 x4 x5 x6 x7 x8 x9 x10 l i s).1, .int .i64 (enterR x0 x1 x2 x3 x4 x5 x6 x7 x8 x9 x10 l i s).2.1], .int .i64 (enterR x0 x1 x2 x3 x4 x5 x6 x7 x8 x9 x10 l i s).2.2.1, .int .i64 (enterR x0 x1 x2 x3 x4 x5 x6 x7 x8 x9 x10 l i s).2.2.2]) ∧ Below w.heap.size w w' := by
  unfold enterR
  rcases coversR_cases x0 x1 x2 x3 x4 x5 x6 x7 x8 x9 x10 s with hc | ⟨hc2, hs, hs2⟩
  · rw [hc, if_neg (by simp)]
    exact enter_off x0 x1 x2 x3 x4 x5 x6 x7 x8 x9 x10 l i s w hw hc
  · cases hJ : jisB x0 x1 x2 x3 x4 x5 x6 x7 x8 x9 x10 l i
    · rw [if_neg (by simp)]
      exact enter_bad x0 x1 x2 x3 x4 x5 x6 x7 x8 x9 x10 l i s w hw (coversR x0 x1 x2 x3 x4 x5 x6 x7 x8 x9 x10 s).1 (Prod.ext rfl hc2) hJ
    · rw [if_pos ⟨hc2, rfl⟩]
      cases hb : (coversR x0 x1 x2 x3 x4 x5 x6 x7 x8 x9 x10 s).1
      · rw [if_neg (by simp)]
        exact enter_place x0 x1 x2 x3 x4 x5 x6 x7 x8 x9 x10 l i s w hw (Prod.ext hb hc2) hJ
      · rw [if_pos rfl]
        have hc : coversR x0 x1 x2 x3 x4 x5 x6 x7 x8 x9 x10 s = (true, 0) := Prod.ext hb hc2
        have hj := jisB_facts hJ
        by_cases hi : i = 0
        · subst hi
          rw [if_pos rfl]
          by_cases h3 : x1 = 3
          · subst h3
            rw [if_pos rfl]
            exact enter_ok_season x0 x2 x3 x4 x5 x6 x7 x8 x9 x10 l s w hw hc hJ hs hs2
          · rw [if_neg h3]
            by_cases hl : 0 < l
            · rw [if_pos hl]
              by_cases h1 : x1 = 1
              · subst h1
                exact enter_ok_single x0 x2 x3 x4 x5 x6 x7 x8 x9 x10 l s w hw hc hJ hl (by omega) hs hs2
              · by_cases h2 : x1 = 2
                · subst h2
                  exact enter_ok_there x0 x2 x3 x4 x5 x6 x7 x8 x9 x10 l s w hw hc hJ hl (by omega) hs hs2
                · exact enter_ok_legs x0 x1 x2 x3 x4 x5 x6 x7 x8 x9 x10 l s w hw hc hJ hl (by omega) hs hs2 h1 h2 h3
            · rw [if_neg hl]
              by_cases h1 : x1 = 1
              · subst h1
                exact enter_used_single x0 x2 x3 x4 x5 x6 x7 x8 x9 x10 l s w hw hc hJ (by omega)
              · by_cases h2 : x1 = 2
                · subst h2
                  exact enter_used_there x0 x2 x3 x4 x5 x6 x7 x8 x9 x10 l s w hw hc hJ (by omega)
                · exact enter_used_legs x0 x1 x2 x3 x4 x5 x6 x7 x8 x9 x10 l s w hw hc hJ (by omega) h1 h2 h3
        · rw [if_neg hi]
          exact enter_inside x0 x1 x2 x3 x4 x5 x6 x7 x8 x9 x10 l i s w hw hc hJ hi
end Go.Proofs.Ytdiijjdhofaodaa.G
end
section
namespace Go.Proofs.Ytdiijjdhofaodaa.G
open Go Go.RowKit Go.Proofs.YtdiijjdhofaodaaW.PrintWords Go.Proofs.YtdiijjdhofaodaaW.PrintLast Go.Proofs.YtdiijjdhofaodaaW.PrintMore
def toR (x1 x2 x3 l : Int) : Int := if x1 = 2 ∧ l = 0 then x2 else x3
def leaveR (x0 x1 x2 x3 x4 x5 x6 x7 x8 x9 x10 l i s : Int) : Int × Int × Int × Int :=
  if (coversR x0 x1 x2 x3 x4 x5 x6 x7 x8 x9 x10 s).2 = 0 ∧ jisB x0 x1 x2 x3 x4 x5 x6 x7 x8 x9 x10 l i = true then (if (coversR x0 x1 x2 x3 x4 x5 x6 x7 x8 x9 x10 s).1 = true then (if i = 0 then (l, i, 12, 0) else (if (x1 = 1 ∨ x1 = 2) ∧ ¬ (mn (i - 1) (toR x1 x2 x3 l) ≤ s ∧ s ≤ mx (i - 1) (toR x1 x2 x3 l)) then (l, i, 9, 0) else (l, 0, 0, 0))) else (l, i, 9, 0)) else (0, 0, 0, 1)
theorem leave_any (x0 x1 x2 x3 x4 x5 x6 x7 x8 x9 x10 l i s : Int) (w : World) (hw : -9223372036854775808 ≤ s ∧ s ≤ 9223372036854775807) :
    Calls Try.prog 17 #[.agg #[.int .i64 x0, .int .i64 x1, .int .i64 x2, .int .i64 x3, .int .i64 x4, .int .i64 x5, .int .i64 x6, .int .i64 x7, .int .i64 x8, .int .i64 x9, .int .i64 x10], .agg #[.int .i64 l, .int .i64 i], .int .i64 s] w fun e w' => e = .returned (.tuple #[.agg #[.int .i64 (leaveR x0 x1 x2 x3 x4 x5 x6 x7 x8 x9 x10 l i s).1, .int .i64 (leaveR x0 x1 x2 x3 x4 x5 x6 x7 x8 x9 x10 l i s).2.1], .int .i64 (leaveR x0 x1 x2 x3 x4 x5 x6 x7 x8 x9 x10 l i s).2.2.1, .int .i64 (leaveR x0 x1 x2 x3 x4 x5 x6 x7 x8 x9 x10 l i s).2.2.2]) ∧ Below w.heap.size w w' := by
  unfold leaveR
  rcases coversR_cases x0 x1 x2 x3 x4 x5 x6 x7 x8 x9 x10 s with hc | ⟨hc2, hs, hs2⟩
  · rw [hc, if_neg (by simp)]
    exact leave_off x0 x1 x2 x3 x4 x5 x6 x7 x8 x9 x10 l i s w hw hc
  · cases hJ : jisB x0 x1 x2 x3 x4 x5 x6 x7 x8 x9 x10 l i
    · rw [if_neg (by simp)]
      exact leave_bad x0 x1 x2 x3 x4 x5 x6 x7 x8 x9 x10 l i s w hw (coversR x0 x1 x2 x3 x4 x5 x6 x7 x8 x9 x10 s).1 (Prod.ext rfl hc2) hJ
    · rw [if_pos ⟨hc2, rfl⟩]
      cases hb : (coversR x0 x1 x2 x3 x4 x5 x6 x7 x8 x9 x10 s).1
      · rw [if_neg (by simp)]
        exact leave_place x0 x1 x2 x3 x4 x5 x6 x7 x8 x9 x10 l i s w hw (Prod.ext hb hc2) hJ
      · rw [if_pos rfl]
        have hc : coversR x0 x1 x2 x3 x4 x5 x6 x7 x8 x9 x10 s = (true, 0) := Prod.ext hb hc2
        have hj := jisB_facts hJ
        by_cases hi : i = 0
        · subst hi
          rw [if_pos rfl]
          exact leave_outside x0 x1 x2 x3 x4 x5 x6 x7 x8 x9 x10 l s w hw hc hJ
        · rw [if_neg hi]
          have la : lisB (i - 1) = true := decide_eq_true (by omega)
          have ls : lisB s = true := decide_eq_true (by omega)
          have hwi : wrap64 (i - 1) = i - 1 := tw64 (by omega) (by omega)
          by_cases h3 : x1 = 3
          · subst h3
            rw [if_neg (by omega)]
            exact leave_season x0 x2 x3 x4 x5 x6 x7 x8 x9 x10 l i s w hw hc hJ hi
          · have hway := isB_way hj.1 h3
            have g2 := of_decide_eq_true hway.1
            have g3 := of_decide_eq_true hway.2
            by_cases h1 : x1 = 1
            · subst h1
              have ht : toR 1 x2 x3 l = x3 := by unfold toR; rw [if_neg (by omega)]
              rw [ht]
              by_cases hd : mn (i - 1) x3 ≤ s ∧ s ≤ mx (i - 1) x3
              · rw [if_neg (fun h => h.2 hd)]
                exact leave_single_ok x0 x2 x3 x4 x5 x6 x7 x8 x9 x10 l i s w hw hc hJ hi g3.1 la hway.2 ls hwi (decide_eq_true hd)
              · rw [if_pos ⟨.inl rfl, hd⟩]
                exact leave_single_no x0 x2 x3 x4 x5 x6 x7 x8 x9 x10 l i s w hw hc hJ hi g3.1 la hway.2 ls hwi (decide_eq_false hd)
            · by_cases h2 : x1 = 2
              · subst h2
                by_cases hl : l = 0
                · subst hl
                  have ht : toR 2 x2 x3 0 = x2 := by unfold toR; rw [if_pos ⟨rfl, rfl⟩]
                  rw [ht]
                  by_cases hd : mn (i - 1) x2 ≤ s ∧ s ≤ mx (i - 1) x2
                  · rw [if_neg (fun h => h.2 hd)]
                    exact leave_there_0_ok x0 x2 x3 x4 x5 x6 x7 x8 x9 x10 i s w hw hc hJ hi g2.1 la hway.1 ls hwi (decide_eq_true hd)
                  · rw [if_pos ⟨.inr rfl, hd⟩]
                    exact leave_there_0_no x0 x2 x3 x4 x5 x6 x7 x8 x9 x10 i s w hw hc hJ hi g2.1 la hway.1 ls hwi (decide_eq_false hd)
                · have ht : toR 2 x2 x3 l = x3 := by unfold toR; rw [if_neg (fun h => hl h.2)]
                  rw [ht]
                  by_cases hd : mn (i - 1) x3 ≤ s ∧ s ≤ mx (i - 1) x3
                  · rw [if_neg (fun h => h.2 hd)]
                    exact leave_there_n_ok x0 x2 x3 x4 x5 x6 x7 x8 x9 x10 l i s w hw hc hJ hi hl g3.1 la hway.2 ls hwi (decide_eq_true hd)
                  · rw [if_pos ⟨.inr rfl, hd⟩]
                    exact leave_there_n_no x0 x2 x3 x4 x5 x6 x7 x8 x9 x10 l i s w hw hc hJ hi hl g3.1 la hway.2 ls hwi (decide_eq_false hd)
              · rw [if_neg (by omega)]
                exact leave_legs x0 x1 x2 x3 x4 x5 x6 x7 x8 x9 x10 l i s w hw hc hJ hi h1 h2 h3
end Go.Proofs.Ytdiijjdhofaodaa.G
end
section
namespace Go.Proofs.YtdiijjdhofaodaaW.PrintWords
open Go Go.RowKit
theorem gm_u8 (x : Int) : IntKind.u8.wrap x = x % 256 := rfl
theorem gm_u32 (x : Int) : IntKind.u32.wrap x = x % 4294967296 := rfl
theorem gm_tmod (x : Int) : (x % 4294967296).tmod 256 = x % 4294967296 % 256 := Int.tmod_eq_emod_of_nonneg (by omega)
section
variable {P : Program} {ops : Array Oper} {rest : List Oper} {o : Oper} {a : Act} {Q : Exit → Act → World → Prop} {α : Type}
theorem Kd.R_make0 (d : Kd α) {w0 W : World} (base e : Nat) (hgd : o.guard = none) {N : Tmp} (_hd : o.dst = some N) (t : TypeId) (x y : Operand) (ho : o.op = .makeSlice t x y) (n : Int) (hx : a.eval x = .int .i64 0) (hy : a.eval y = .int .i64 n)
    (ht : P.underlying t = some (.slice e)) (z : Value) (bytes : Nat) (hinfo : (P.info? e).map (fun i => (i.zero, i.size, i.bytes)) = some (some z, d.sz, bytes)) (_hz : z.cells.size = d.sz) (_hs0 : 0 < d.sz) (hb0 : 0 < bytes)
    (z0 : α) {ok okp : Nat → Prop} (_hzero : d.M W base okp z0 z.cells.toList) (_hok : ∀ k, okp k → ok k) (hfresh : ok W.heap.size) (h0 : 0 ≤ n) (hl : n.toNat * bytes ≤ 281474976710656) (HB : Below base w0 W) (hbase : base ≤ W.heap.size)
    (h : ∀ v1 w1, d.R e w1 base ok v1 [] → Below base w0 w1 → W.grownBy w1 none → (∃ b, v1.ownBlock = some b ∧ W.heap.size ≤ b) → wpList P ops Q rest (a.put o.dst v1) w1) : wpList P ops Q (o :: rest) a W := by
  obtain ⟨m, rfl⟩ := Int.eq_ofNat_of_zero_le h0
  simp only [Int.toNat_natCast] at hl
  obtain ⟨i0, hi, hzz⟩ := Option.map_eq_some_iff.1 hinfo
  simp only [Prod.mk.injEq] at hzz
  obtain ⟨hz0, hz1, hz2⟩ := hzz
  have hm : m ≤ 281474976710656 := Nat.le_trans (Nat.le_mul_of_pos_right _ hb0) hl
  obtain ⟨w1, hrun, hown, hg⟩ := run_make_own (P := P) (w := W) base t e i0 z d.sz ht hi hz0 hz1 .i64 .i64 m (by rw [hz2, Nat.mul_comm]; exact hl) (by unfold maxLen; omega) hbase
  refine event_run hgd (by simp only [execOp, ho, hx, hy]; simp [hrun]) (h _ _ ⟨fun k hk => ?_, [], hown, Reps.none _ _⟩ (HB.grown hg hbase (fun k e => by cases e)) hg ⟨W.heap.size, by simp [Value.ownBlock], Nat.le_refl _⟩)
  have : W.heap.size = k := by simpa [Value.ownBlock] using hk
  subst this
  exact hfresh
end
end Go.Proofs.YtdiijjdhofaodaaW.PrintWords
end
section
namespace Go.Proofs.Ytdiijjdhofaodaa.G
open Go Go.RowKit
section
variable {F : Fence} {n : Nat} {P : Program} {ops : Array Oper} {Q : Exit → Act → World → Prop} {md : Region.Mode}
def noDefer (o : Oper) : Bool := match o.op with | .defer _ => false | _ => true
theorem noDefer_spec {o : Oper} (h : noDefer o = true) : ∀ c, o.op ≠ .defer c := by
  intro c hc
  simp [noDefer, hc] at h
theorem operIn_inRound {o : Oper} {l : Nat} {a : Act} {w : World} {K : Act → World → Prop} (hd : noDefer o = true) (h : o.wpIn F n P a w K Q) : o.wpIn (F.inRound l) n P a w K Q := by
  refine ⟨h.1, ?_⟩
  have h2 := h.2
  rw [Oper.semAt_eq _ _ _ (noDefer_spec hd)] at h2 ⊢
  exact h2
theorem wpOpIn_inRound {l i : Nat} {a : Act} {w : World} {K : Act → World → Prop} (hd : ops.toList.all noDefer = true) (h : wpOpIn F n P ops Q i K a w) : wpOpIn (F.inRound l) n P ops Q i K a w := by
  unfold wpOpIn at *
  cases ho : ops[i]? with
  | none => simpa [ho] using h
  | some o =>
    simp only [ho] at h ⊢
    have hdo : noDefer o = true := by
      obtain ⟨hi, he⟩ := Array.getElem?_eq_some_iff.1 ho
      rw [← he]
      exact List.all_eq_true.1 hd _ (by simp)
    split
    · rename_i hw
      rw [if_pos hw] at h
      exact operIn_inRound hdo h
    · rename_i hw
      rw [if_neg hw] at h
      exact h
theorem wpAnyIn_inRound {l : Nat} (hd : ops.toList.all noDefer = true) : ∀ (fuel : Nat) (listed : Array Bool) (a : Act) (w : World), wpAnyIn F n P md ops Q fuel listed a w → wpAnyIn (F.inRound l) n P md ops Q fuel listed a w
  | 0, _, _, _, h => h
  | fuel + 1, _, _, _, h => ⟨h.1, fun i hi => wpOpIn_mono (fun a w hh => wpAnyIn_inRound hd fuel _ a w hh) (wpOpIn_inRound hd (h.2 i hi))⟩
/-- The region's rest as a predicate of its own. -/
theorem any_capture {fuel : Nat} {listed : Array Bool} {a : Act} {w : World} (h : ∀ G : Nat → Array Bool → Act → World → Prop, (∀ f l a w, G f l a w = wpAnyIn F n P md ops Q f l a w) → G fuel listed a w) : wpAnyIn F n P md ops Q fuel listed a w := h _ fun _ _ _ _ => rfl
end
end Go.Proofs.Ytdiijjdhofaodaa.G
end
