/- The walks of journey.Leave: for any ticket, journey and station. (Written by gen_leave.py.) -/
import Derived.Test.YtdiijjdhofaodaaGEnter
import Derived.StillTailTactics
namespace Go.Proofs.Ytdiijjdhofaodaa.G
open Go Go.RowKit Go.Proofs.YtdiijjdhofaodaaW.PrintWords Go.Proofs.YtdiijjdhofaodaaW.PrintLast Go.Proofs.YtdiijjdhofaodaaW.PrintMore
theorem meth_single_end (W : World) : Sem.run Try.prog (method 211 85 (.agg #[]) "gateline/journey.end") W = .ok (96, .agg #[]) W := by rfl
theorem meth_there_end (W : World) : Sem.run Try.prog (method 211 86 (.agg #[]) "gateline/journey.end") W = .ok (97, .agg #[]) W := by rfl
theorem meth_legs_end (W : World) : Sem.run Try.prog (method 211 83 (.agg #[]) "gateline/journey.end") W = .ok (93, .agg #[]) W := by rfl
theorem meth_season_end (W : World) : Sem.run Try.prog (method 211 87 (.agg #[]) "gateline/journey.end") W = .ok (98, .agg #[]) W := by rfl
attribute [local go_sem] meth_single_end meth_there_end meth_legs_end meth_season_end
theorem end_single (x0 x1 x2 x3 x4 x5 x6 x7 x8 x9 x10 l i : Int) (w : World)  : Calls Try.prog 96 #[.agg #[], .agg #[.int .i64 x0, .int .i64 x1, .int .i64 x2, .int .i64 x3, .int .i64 x4, .int .i64 x5, .int .i64 x6, .int .i64 x7, .int .i64 x8, .int .i64 x9, .int .i64 x10], .agg #[.int .i64 l, .int .i64 i]] w fun e w' => e = .returned (.int .i64 (x3)) ∧ Below w.heap.size w w' := by
  go_enter Try.func96, Try.ntmps96
  go_wp2
  go_ret
  exact ⟨rfl, by repeat' (first | exact Below.refl _ _ | refine Below.alloc ?_ (by first | exact Nat.le_refl _ | (simp only [World.size_alloc]; omega)) _)⟩
theorem end_there_n (x0 x1 x2 x3 x4 x5 x6 x7 x8 x9 x10 l i : Int) (w : World) (hl : l ≠ 0) : Calls Try.prog 97 #[.agg #[], .agg #[.int .i64 x0, .int .i64 x1, .int .i64 x2, .int .i64 x3, .int .i64 x4, .int .i64 x5, .int .i64 x6, .int .i64 x7, .int .i64 x8, .int .i64 x9, .int .i64 x10], .agg #[.int .i64 l, .int .i64 i]] w fun e w' => e = .returned (.int .i64 (x3)) ∧ Below w.heap.size w w' := by
  have hb' : (l == 0) = false := beq_eq_false_iff_ne.2 hl
  go_enter Try.func97, Try.ntmps97
  go_wp2
  go_ret
  exact ⟨rfl, by repeat' (first | exact Below.refl _ _ | refine Below.alloc ?_ (by first | exact Nat.le_refl _ | (simp only [World.size_alloc]; omega)) _)⟩
theorem end_there_0 (x0 x1 x2 x3 x4 x5 x6 x7 x8 x9 x10 i : Int) (w : World)  : Calls Try.prog 97 #[.agg #[], .agg #[.int .i64 x0, .int .i64 x1, .int .i64 x2, .int .i64 x3, .int .i64 x4, .int .i64 x5, .int .i64 x6, .int .i64 x7, .int .i64 x8, .int .i64 x9, .int .i64 x10], .agg #[.int .i64 0, .int .i64 i]] w fun e w' => e = .returned (.int .i64 (x2)) ∧ Below w.heap.size w w' := by
  go_enter Try.func97, Try.ntmps97
  go_wp2
  go_ret
  exact ⟨rfl, by repeat' (first | exact Below.refl _ _ | refine Below.alloc ?_ (by first | exact Nat.le_refl _ | (simp only [World.size_alloc]; omega)) _)⟩
theorem end_legs (x0 x1 x2 x3 x4 x5 x6 x7 x8 x9 x10 l i : Int) (w : World)  : Calls Try.prog 93 #[.agg #[], .agg #[.int .i64 x0, .int .i64 x1, .int .i64 x2, .int .i64 x3, .int .i64 x4, .int .i64 x5, .int .i64 x6, .int .i64 x7, .int .i64 x8, .int .i64 x9, .int .i64 x10], .agg #[.int .i64 l, .int .i64 i]] w fun e w' => e = .returned (.int .i64 (-1)) ∧ Below w.heap.size w w' := by
  go_enter Try.func93, Try.ntmps93
  go_wp2
  go_ret
  exact ⟨rfl, by repeat' (first | exact Below.refl _ _ | refine Below.alloc ?_ (by first | exact Nat.le_refl _ | (simp only [World.size_alloc]; omega)) _)⟩
theorem end_season (x0 x1 x2 x3 x4 x5 x6 x7 x8 x9 x10 l i : Int) (w : World)  : Calls Try.prog 98 #[.agg #[], .agg #[.int .i64 x0, .int .i64 x1, .int .i64 x2, .int .i64 x3, .int .i64 x4, .int .i64 x5, .int .i64 x6, .int .i64 x7, .int .i64 x8, .int .i64 x9, .int .i64 x10], .agg #[.int .i64 l, .int .i64 i]] w fun e w' => e = .returned (.int .i64 (-1)) ∧ Below w.heap.size w w' := by
  go_enter Try.func98, Try.ntmps98
  go_wp2
  go_ret
  exact ⟨rfl, by repeat' (first | exact Below.refl _ _ | refine Below.alloc ?_ (by first | exact Nat.le_refl _ | (simp only [World.size_alloc]; omega)) _)⟩
set_option maxRecDepth 100000 in
set_option maxHeartbeats 1000000 in
theorem leave_off (x0 x1 x2 x3 x4 x5 x6 x7 x8 x9 x10 l i s : Int) (w : World) (hw : -9223372036854775808 ≤ s ∧ s ≤ 9223372036854775807) (hc : coversR x0 x1 x2 x3 x4 x5 x6 x7 x8 x9 x10 s = (false, 1)) :
    Calls Try.prog 17 #[.agg #[.int .i64 x0, .int .i64 x1, .int .i64 x2, .int .i64 x3, .int .i64 x4, .int .i64 x5, .int .i64 x6, .int .i64 x7, .int .i64 x8, .int .i64 x9, .int .i64 x10], .agg #[.int .i64 l, .int .i64 i], .int .i64 s] w fun e w' => e = .returned (.tuple #[.agg #[.int .i64 (0), .int .i64 (0)], .int .i64 0, .int .i64 1]) ∧ Below w.heap.size w w' := by
  have hk_ := True.intro
  go_enter Try.func17, Try.ntmps17
  go_wp2_with (first
    | (go_at_call 27; refine (covers_any _ _ _ _ _ _ _ _ _ _ _ _ _ hw).mono ?_; rintro e w1 ⟨rfl, hb⟩; rw [hc]; have F1 := j_facts hb; clear hb; obtain ⟨q0, q1, q2, q3, q4, q5, q6, q7, q8, q9, q10⟩ := F1.1.all; have p0 := F1.2.1.cell 0 _ rfl; have p1 := F1.2.1.cell 1 _ rfl; have r0 := F1.2.2.1.cell 0 _ rfl; have r1 := F1.2.2.1.cell 1 _ rfl; have f0 := F1.2.2.1.frozen 0; have f1 := F1.2.2.1.frozen 1)
    | (go_at_call 44; refine (of_any _ _).mono ?_; rintro e w' ⟨rfl, rfl⟩; (try rw [show ruleT x1 = 83 from hk_]))
    | (go_at_call 22; refine (jis_any _ _ _ _ _ _ _ _ _ _ _ _ _ _).mono ?_; rintro e w2 ⟨rfl, hb2⟩; rw [hJ]; clear q0 q1 q2 q3 q4 q5 q6 q7 q8 q9 q10 p0 p1 r0 r1 f0 f1; have F2 := j_more F1 hb2; clear hb2; obtain ⟨q0, q1, q2, q3, q4, q5, q6, q7, q8, q9, q10⟩ := F2.1.all; have p0 := F2.2.1.cell 0 _ rfl; have p1 := F2.2.1.cell 1 _ rfl; have r0 := F2.2.2.1.cell 0 _ rfl; have r1 := F2.2.2.1.cell 1 _ rfl; have f0 := F2.2.2.1.frozen 0; have f1 := F2.2.2.1.frozen 1)
    | go_in)
  show bodyPost _ _ _ Exit.ret _ (World.setCell (World.setCell ?W _ _) _ _)
  have g : Blk ?W (w.heap.size + 1 + 1) #[.int .i64 0, .int .i64 0] 25 ∧ Below w.heap.size w ?W := by
    constructor
    · with_reducible repeat (first | exact F1.2.2.1 | refine Blk.alloc ?_ _)
    · with_reducible repeat (first | exact F1.2.2.2 | refine below_alloc ?_ _)
  have x := j_put (.int .i64 (0)) (.int .i64 (0)) g.1 g.2 (by omega)
  have y0 := x.1.cell 0 _ rfl
  have y1 := x.1.cell 1 _ rfl
  refine bodyPost_ret (v := .tuple #[.agg #[.int .i64 (0), .int .i64 (0)], .int .i64 0, .int .i64 1]) (by simp [results, Try.results17, go_sem, y0, y1]) rfl ⟨rfl, x.2⟩
set_option maxRecDepth 100000 in
set_option maxHeartbeats 1000000 in
theorem leave_bad (x0 x1 x2 x3 x4 x5 x6 x7 x8 x9 x10 l i s : Int) (w : World) (hw : -9223372036854775808 ≤ s ∧ s ≤ 9223372036854775807) (b : Bool) (hc : coversR x0 x1 x2 x3 x4 x5 x6 x7 x8 x9 x10 s = (b, 0)) (hJ : jisB x0 x1 x2 x3 x4 x5 x6 x7 x8 x9 x10 l i = false) :
    Calls Try.prog 17 #[.agg #[.int .i64 x0, .int .i64 x1, .int .i64 x2, .int .i64 x3, .int .i64 x4, .int .i64 x5, .int .i64 x6, .int .i64 x7, .int .i64 x8, .int .i64 x9, .int .i64 x10], .agg #[.int .i64 l, .int .i64 i], .int .i64 s] w fun e w' => e = .returned (.tuple #[.agg #[.int .i64 (0), .int .i64 (0)], .int .i64 0, .int .i64 1]) ∧ Below w.heap.size w w' := by
  have hk_ := True.intro
  go_enter Try.func17, Try.ntmps17
  go_wp2_with (first
    | (go_at_call 27; refine (covers_any _ _ _ _ _ _ _ _ _ _ _ _ _ hw).mono ?_; rintro e w1 ⟨rfl, hb⟩; rw [hc]; have F1 := j_facts hb; clear hb; obtain ⟨q0, q1, q2, q3, q4, q5, q6, q7, q8, q9, q10⟩ := F1.1.all; have p0 := F1.2.1.cell 0 _ rfl; have p1 := F1.2.1.cell 1 _ rfl; have r0 := F1.2.2.1.cell 0 _ rfl; have r1 := F1.2.2.1.cell 1 _ rfl; have f0 := F1.2.2.1.frozen 0; have f1 := F1.2.2.1.frozen 1)
    | (go_at_call 44; refine (of_any _ _).mono ?_; rintro e w' ⟨rfl, rfl⟩; (try rw [show ruleT x1 = 83 from hk_]))
    | (go_at_call 22; refine (jis_any _ _ _ _ _ _ _ _ _ _ _ _ _ _).mono ?_; rintro e w2 ⟨rfl, hb2⟩; rw [hJ]; clear q0 q1 q2 q3 q4 q5 q6 q7 q8 q9 q10 p0 p1 r0 r1 f0 f1; have F2 := j_more F1 hb2; clear hb2; obtain ⟨q0, q1, q2, q3, q4, q5, q6, q7, q8, q9, q10⟩ := F2.1.all; have p0 := F2.2.1.cell 0 _ rfl; have p1 := F2.2.1.cell 1 _ rfl; have r0 := F2.2.2.1.cell 0 _ rfl; have r1 := F2.2.2.1.cell 1 _ rfl; have f0 := F2.2.2.1.frozen 0; have f1 := F2.2.2.1.frozen 1)
    | go_in)
  show bodyPost _ _ _ Exit.ret _ (World.setCell (World.setCell ?W _ _) _ _)
  have g : Blk ?W (w.heap.size + 1 + 1) #[.int .i64 0, .int .i64 0] 25 ∧ Below w.heap.size w ?W := by
    constructor
    · with_reducible repeat (first | exact F2.2.2.1 | refine Blk.alloc ?_ _)
    · with_reducible repeat (first | exact F2.2.2.2 | refine below_alloc ?_ _)
  have x := j_put (.int .i64 (0)) (.int .i64 (0)) g.1 g.2 (by omega)
  have y0 := x.1.cell 0 _ rfl
  have y1 := x.1.cell 1 _ rfl
  refine bodyPost_ret (v := .tuple #[.agg #[.int .i64 (0), .int .i64 (0)], .int .i64 0, .int .i64 1]) (by simp [results, Try.results17, go_sem, y0, y1]) rfl ⟨rfl, x.2⟩
set_option maxRecDepth 100000 in
set_option maxHeartbeats 1000000 in
theorem leave_place (x0 x1 x2 x3 x4 x5 x6 x7 x8 x9 x10 l i s : Int) (w : World) (hw : -9223372036854775808 ≤ s ∧ s ≤ 9223372036854775807) (hc : coversR x0 x1 x2 x3 x4 x5 x6 x7 x8 x9 x10 s = (false, 0)) (hJ : jisB x0 x1 x2 x3 x4 x5 x6 x7 x8 x9 x10 l i = true) :
    Calls Try.prog 17 #[.agg #[.int .i64 x0, .int .i64 x1, .int .i64 x2, .int .i64 x3, .int .i64 x4, .int .i64 x5, .int .i64 x6, .int .i64 x7, .int .i64 x8, .int .i64 x9, .int .i64 x10], .agg #[.int .i64 l, .int .i64 i], .int .i64 s] w fun e w' => e = .returned (.tuple #[.agg #[.int .i64 (l), .int .i64 (i)], .int .i64 9, .int .i64 0]) ∧ Below w.heap.size w w' := by
  have hk_ := True.intro
  go_enter Try.func17, Try.ntmps17
  go_wp2_with (first
    | (go_at_call 27; refine (covers_any _ _ _ _ _ _ _ _ _ _ _ _ _ hw).mono ?_; rintro e w1 ⟨rfl, hb⟩; rw [hc]; have F1 := j_facts hb; clear hb; obtain ⟨q0, q1, q2, q3, q4, q5, q6, q7, q8, q9, q10⟩ := F1.1.all; have p0 := F1.2.1.cell 0 _ rfl; have p1 := F1.2.1.cell 1 _ rfl; have r0 := F1.2.2.1.cell 0 _ rfl; have r1 := F1.2.2.1.cell 1 _ rfl; have f0 := F1.2.2.1.frozen 0; have f1 := F1.2.2.1.frozen 1)
    | (go_at_call 44; refine (of_any _ _).mono ?_; rintro e w' ⟨rfl, rfl⟩; (try rw [show ruleT x1 = 83 from hk_]))
    | (go_at_call 22; refine (jis_any _ _ _ _ _ _ _ _ _ _ _ _ _ _).mono ?_; rintro e w2 ⟨rfl, hb2⟩; rw [hJ]; clear q0 q1 q2 q3 q4 q5 q6 q7 q8 q9 q10 p0 p1 r0 r1 f0 f1; have F2 := j_more F1 hb2; clear hb2; obtain ⟨q0, q1, q2, q3, q4, q5, q6, q7, q8, q9, q10⟩ := F2.1.all; have p0 := F2.2.1.cell 0 _ rfl; have p1 := F2.2.1.cell 1 _ rfl; have r0 := F2.2.2.1.cell 0 _ rfl; have r1 := F2.2.2.1.cell 1 _ rfl; have f0 := F2.2.2.1.frozen 0; have f1 := F2.2.2.1.frozen 1)
    | go_in)
  show bodyPost _ _ _ Exit.ret _ (World.setCell (World.setCell ?W _ _) _ _)
  have g : Blk ?W (w.heap.size + 1 + 1) #[.int .i64 0, .int .i64 0] 25 ∧ Below w.heap.size w ?W := by
    constructor
    · with_reducible repeat (first | exact F2.2.2.1 | refine Blk.alloc ?_ _)
    · with_reducible repeat (first | exact F2.2.2.2 | refine below_alloc ?_ _)
  have x := j_put (.int .i64 (l)) (.int .i64 (i)) g.1 g.2 (by omega)
  have y0 := x.1.cell 0 _ rfl
  have y1 := x.1.cell 1 _ rfl
  refine bodyPost_ret (v := .tuple #[.agg #[.int .i64 (l), .int .i64 (i)], .int .i64 9, .int .i64 0]) (by simp [results, Try.results17, go_sem, y0, y1]) rfl ⟨rfl, x.2⟩
set_option maxRecDepth 100000 in
set_option maxHeartbeats 1000000 in
theorem leave_outside (x0 x1 x2 x3 x4 x5 x6 x7 x8 x9 x10 l s : Int) (w : World) (hw : -9223372036854775808 ≤ s ∧ s ≤ 9223372036854775807) (hc : coversR x0 x1 x2 x3 x4 x5 x6 x7 x8 x9 x10 s = (true, 0)) (hJ : jisB x0 x1 x2 x3 x4 x5 x6 x7 x8 x9 x10 l 0 = true) :
    Calls Try.prog 17 #[.agg #[.int .i64 x0, .int .i64 x1, .int .i64 x2, .int .i64 x3, .int .i64 x4, .int .i64 x5, .int .i64 x6, .int .i64 x7, .int .i64 x8, .int .i64 x9, .int .i64 x10], .agg #[.int .i64 l, .int .i64 0], .int .i64 s] w fun e w' => e = .returned (.tuple #[.agg #[.int .i64 (l), .int .i64 (0)], .int .i64 12, .int .i64 0]) ∧ Below w.heap.size w w' := by
  have hk_ := True.intro
  go_enter Try.func17, Try.ntmps17
  go_wp2_with (first
    | (go_at_call 27; refine (covers_any _ _ _ _ _ _ _ _ _ _ _ _ _ hw).mono ?_; rintro e w1 ⟨rfl, hb⟩; rw [hc]; have F1 := j_facts hb; clear hb; obtain ⟨q0, q1, q2, q3, q4, q5, q6, q7, q8, q9, q10⟩ := F1.1.all; have p0 := F1.2.1.cell 0 _ rfl; have p1 := F1.2.1.cell 1 _ rfl; have r0 := F1.2.2.1.cell 0 _ rfl; have r1 := F1.2.2.1.cell 1 _ rfl; have f0 := F1.2.2.1.frozen 0; have f1 := F1.2.2.1.frozen 1)
    | (go_at_call 44; refine (of_any _ _).mono ?_; rintro e w' ⟨rfl, rfl⟩; (try rw [show ruleT x1 = 83 from hk_]))
    | (go_at_call 22; refine (jis_any _ _ _ _ _ _ _ _ _ _ _ _ _ _).mono ?_; rintro e w2 ⟨rfl, hb2⟩; rw [hJ]; clear q0 q1 q2 q3 q4 q5 q6 q7 q8 q9 q10 p0 p1 r0 r1 f0 f1; have F2 := j_more F1 hb2; clear hb2; obtain ⟨q0, q1, q2, q3, q4, q5, q6, q7, q8, q9, q10⟩ := F2.1.all; have p0 := F2.2.1.cell 0 _ rfl; have p1 := F2.2.1.cell 1 _ rfl; have r0 := F2.2.2.1.cell 0 _ rfl; have r1 := F2.2.2.1.cell 1 _ rfl; have f0 := F2.2.2.1.frozen 0; have f1 := F2.2.2.1.frozen 1)
    | go_in)
  show bodyPost _ _ _ Exit.ret _ (World.setCell (World.setCell ?W _ _) _ _)
  have g : Blk ?W (w.heap.size + 1 + 1) #[.int .i64 0, .int .i64 0] 25 ∧ Below w.heap.size w ?W := by
    constructor
    · with_reducible repeat (first | exact F2.2.2.1 | refine Blk.alloc ?_ _)
    · with_reducible repeat (first | exact F2.2.2.2 | refine below_alloc ?_ _)
  have x := j_put (.int .i64 (l)) (.int .i64 (0)) g.1 g.2 (by omega)
  have y0 := x.1.cell 0 _ rfl
  have y1 := x.1.cell 1 _ rfl
  refine bodyPost_ret (v := .tuple #[.agg #[.int .i64 (l), .int .i64 (0)], .int .i64 12, .int .i64 0]) (by simp [results, Try.results17, go_sem, y0, y1]) rfl ⟨rfl, x.2⟩
set_option maxRecDepth 100000 in
set_option maxHeartbeats 1000000 in
theorem leave_single_ok (x0 x2 x3 x4 x5 x6 x7 x8 x9 x10 l i s : Int) (w : World) (hw : -9223372036854775808 ≤ s ∧ s ≤ 9223372036854775807) (hc : coversR x0 1 x2 x3 x4 x5 x6 x7 x8 x9 x10 s = (true, 0)) (hJ : jisB x0 1 x2 x3 x4 x5 x6 x7 x8 x9 x10 l i = true) (hi : i ≠ 0) (hge : 0 ≤ x3) (la : lisB (i - 1) = true) (le : lisB x3 = true) (ls : lisB s = true) (hwi : wrap64 (i - 1) = i - 1) (hb : decide (mn (i - 1) x3 ≤ s ∧ s ≤ mx (i - 1) x3) = true) :
    Calls Try.prog 17 #[.agg #[.int .i64 x0, .int .i64 1, .int .i64 x2, .int .i64 x3, .int .i64 x4, .int .i64 x5, .int .i64 x6, .int .i64 x7, .int .i64 x8, .int .i64 x9, .int .i64 x10], .agg #[.int .i64 l, .int .i64 i], .int .i64 s] w fun e w' => e = .returned (.tuple #[.agg #[.int .i64 (l), .int .i64 (0)], .int .i64 0, .int .i64 0]) ∧ Below w.heap.size w w' := by
  have hk_ : ruleT 1 = 85 := rfl
  have hi' : (i == 0) = false := beq_eq_false_iff_ne.2 hi
  go_enter Try.func17, Try.ntmps17
  go_wp2_with (first
    | (go_at_call 27; refine (covers_any _ _ _ _ _ _ _ _ _ _ _ _ _ hw).mono ?_; rintro e w1 ⟨rfl, hb⟩; rw [hc]; have F1 := j_facts hb; clear hb; obtain ⟨q0, q1, q2, q3, q4, q5, q6, q7, q8, q9, q10⟩ := F1.1.all; have p0 := F1.2.1.cell 0 _ rfl; have p1 := F1.2.1.cell 1 _ rfl; have r0 := F1.2.2.1.cell 0 _ rfl; have r1 := F1.2.2.1.cell 1 _ rfl; have f0 := F1.2.2.1.frozen 0; have f1 := F1.2.2.1.frozen 1)
    | (go_at_call 22; refine (jis_any _ _ _ _ _ _ _ _ _ _ _ _ _ _).mono ?_; rintro e w2 ⟨rfl, hb2⟩; rw [hJ]; clear q0 q1 q2 q3 q4 q5 q6 q7 q8 q9 q10 p0 p1 r0 r1 f0 f1; have F2 := j_more F1 hb2; clear hb2; obtain ⟨q0, q1, q2, q3, q4, q5, q6, q7, q8, q9, q10⟩ := F2.1.all; have p0 := F2.2.1.cell 0 _ rfl; have p1 := F2.2.1.cell 1 _ rfl; have r0 := F2.2.2.1.cell 0 _ rfl; have r1 := F2.2.2.1.cell 1 _ rfl; have f0 := F2.2.2.1.frozen 0; have f1 := F2.2.2.1.frozen 1)
    | go_in)
  go_still_tail 5, (by kernel_rfl)
  still_call ((of_any _ _).mono (fun e w' h => ⟨h.1, h.2.symm⟩))
  rw [hk_]
  repeat still_step
  refine wpStill_nil ?_
  change wpList _ _ _ _ _ w2.drew
  have F3 := (⟨blk_drew F2.1, blk_drew F2.2.1, blk_drew F2.2.2.1, below_drew F2.2.2.2⟩ : Blk w2.drew w.heap.size (tkA x0 1 x2 x3 x4 x5 x6 x7 x8 x9 x10) 23 ∧ Blk w2.drew (w.heap.size + 1) #[.int .i64 l, .int .i64 i] 25 ∧ Blk w2.drew (w.heap.size + 1 + 1) #[.int .i64 0, .int .i64 0] 25 ∧ Below w.heap.size w w2.drew)
  clear q0 q1 q2 q3 q4 q5 q6 q7 q8 q9 q10 p0 p1 r0 r1 f0 f1 F2
  generalize w2.drew = w3 at F3 ⊢
  go_wp2_with (first
    | (go_at_call 96; refine (end_single _ _ _ _ _ _ _ _ _ _ _ _ _ _).mono ?_; rintro e w4 ⟨rfl, hb4⟩; have F4 := j_more F3 hb4; clear hb4; obtain ⟨q0, q1, q2, q3, q4, q5, q6, q7, q8, q9, q10⟩ := F4.1.all; have p0 := F4.2.1.cell 0 _ rfl; have p1 := F4.2.1.cell 1 _ rfl; have r0 := F4.2.2.1.cell 0 _ rfl; have r1 := F4.2.2.1.cell 1 _ rfl; have f0 := F4.2.2.1.frozen 0; have f1 := F4.2.2.1.frozen 1)
    | (go_at_call 46; (try rw [hwi]); refine (between_in _ _ _ _ la le ls).mono ?_; rintro e w' ⟨rfl, rfl⟩; rw [hb])
    | go_in)
  show bodyPost _ _ _ Exit.ret _ (World.setCell (World.setCell ?W _ _) _ _)
  have g : Blk ?W (w.heap.size + 1 + 1) #[.int .i64 0, .int .i64 0] 25 ∧ Below w.heap.size w ?W := by
    constructor
    · with_reducible repeat (first | exact F4.2.2.1 | refine Blk.alloc ?_ _)
    · with_reducible repeat (first | exact F4.2.2.2 | refine below_alloc ?_ _)
  have x := j_put (.int .i64 (l)) (.int .i64 (0)) g.1 g.2 (by omega)
  have y0 := x.1.cell 0 _ rfl
  have y1 := x.1.cell 1 _ rfl
  refine bodyPost_ret (v := .tuple #[.agg #[.int .i64 (l), .int .i64 (0)], .int .i64 0, .int .i64 0]) (by simp [results, Try.results17, go_sem, y0, y1]) rfl ⟨rfl, x.2⟩
set_option maxRecDepth 100000 in
set_option maxHeartbeats 1000000 in
theorem leave_there_n_ok (x0 x2 x3 x4 x5 x6 x7 x8 x9 x10 l i s : Int) (w : World) (hw : -9223372036854775808 ≤ s ∧ s ≤ 9223372036854775807) (hc : coversR x0 2 x2 x3 x4 x5 x6 x7 x8 x9 x10 s = (true, 0)) (hJ : jisB x0 2 x2 x3 x4 x5 x6 x7 x8 x9 x10 l i = true) (hi : i ≠ 0) (hl : l ≠ 0) (hge : 0 ≤ x3) (la : lisB (i - 1) = true) (le : lisB x3 = true) (ls : lisB s = true) (hwi : wrap64 (i - 1) = i - 1) (hb : decide (mn (i - 1) x3 ≤ s ∧ s ≤ mx (i - 1) x3) = true) :
    Calls Try.prog 17 #[.agg #[.int .i64 x0, .int .i64 2, .int .i64 x2, .int .i64 x3, .int .i64 x4, .int .i64 x5, .int .i64 x6, .int .i64 x7, .int .i64 x8, .int .i64 x9, .int .i64 x10], .agg #[.int .i64 l, .int .i64 i], .int .i64 s] w fun e w' => e = .returned (.tuple #[.agg #[.int .i64 (l), .int .i64 (0)], .int .i64 0, .int .i64 0]) ∧ Below w.heap.size w w' := by
  have hk_ : ruleT 2 = 86 := rfl
  have hi' : (i == 0) = false := beq_eq_false_iff_ne.2 hi
  go_enter Try.func17, Try.ntmps17
  go_wp2_with (first
    | (go_at_call 27; refine (covers_any _ _ _ _ _ _ _ _ _ _ _ _ _ hw).mono ?_; rintro e w1 ⟨rfl, hb⟩; rw [hc]; have F1 := j_facts hb; clear hb; obtain ⟨q0, q1, q2, q3, q4, q5, q6, q7, q8, q9, q10⟩ := F1.1.all; have p0 := F1.2.1.cell 0 _ rfl; have p1 := F1.2.1.cell 1 _ rfl; have r0 := F1.2.2.1.cell 0 _ rfl; have r1 := F1.2.2.1.cell 1 _ rfl; have f0 := F1.2.2.1.frozen 0; have f1 := F1.2.2.1.frozen 1)
    | (go_at_call 22; refine (jis_any _ _ _ _ _ _ _ _ _ _ _ _ _ _).mono ?_; rintro e w2 ⟨rfl, hb2⟩; rw [hJ]; clear q0 q1 q2 q3 q4 q5 q6 q7 q8 q9 q10 p0 p1 r0 r1 f0 f1; have F2 := j_more F1 hb2; clear hb2; obtain ⟨q0, q1, q2, q3, q4, q5, q6, q7, q8, q9, q10⟩ := F2.1.all; have p0 := F2.2.1.cell 0 _ rfl; have p1 := F2.2.1.cell 1 _ rfl; have r0 := F2.2.2.1.cell 0 _ rfl; have r1 := F2.2.2.1.cell 1 _ rfl; have f0 := F2.2.2.1.frozen 0; have f1 := F2.2.2.1.frozen 1)
    | go_in)
  go_still_tail 5, (by kernel_rfl)
  still_call ((of_any _ _).mono (fun e w' h => ⟨h.1, h.2.symm⟩))
  rw [hk_]
  repeat still_step
  refine wpStill_nil ?_
  change wpList _ _ _ _ _ w2.drew
  have F3 := (⟨blk_drew F2.1, blk_drew F2.2.1, blk_drew F2.2.2.1, below_drew F2.2.2.2⟩ : Blk w2.drew w.heap.size (tkA x0 2 x2 x3 x4 x5 x6 x7 x8 x9 x10) 23 ∧ Blk w2.drew (w.heap.size + 1) #[.int .i64 l, .int .i64 i] 25 ∧ Blk w2.drew (w.heap.size + 1 + 1) #[.int .i64 0, .int .i64 0] 25 ∧ Below w.heap.size w w2.drew)
  clear q0 q1 q2 q3 q4 q5 q6 q7 q8 q9 q10 p0 p1 r0 r1 f0 f1 F2
  generalize w2.drew = w3 at F3 ⊢
  go_wp2_with (first
    | (go_at_call 97; refine (end_there_n _ _ _ _ _ _ _ _ _ _ _ _ _ _ hl).mono ?_; rintro e w4 ⟨rfl, hb4⟩; have F4 := j_more F3 hb4; clear hb4; obtain ⟨q0, q1, q2, q3, q4, q5, q6, q7, q8, q9, q10⟩ := F4.1.all; have p0 := F4.2.1.cell 0 _ rfl; have p1 := F4.2.1.cell 1 _ rfl; have r0 := F4.2.2.1.cell 0 _ rfl; have r1 := F4.2.2.1.cell 1 _ rfl; have f0 := F4.2.2.1.frozen 0; have f1 := F4.2.2.1.frozen 1)
    | (go_at_call 46; (try rw [hwi]); refine (between_in _ _ _ _ la le ls).mono ?_; rintro e w' ⟨rfl, rfl⟩; rw [hb])
    | go_in)
  show bodyPost _ _ _ Exit.ret _ (World.setCell (World.setCell ?W _ _) _ _)
  have g : Blk ?W (w.heap.size + 1 + 1) #[.int .i64 0, .int .i64 0] 25 ∧ Below w.heap.size w ?W := by
    constructor
    · with_reducible repeat (first | exact F4.2.2.1 | refine Blk.alloc ?_ _)
    · with_reducible repeat (first | exact F4.2.2.2 | refine below_alloc ?_ _)
  have x := j_put (.int .i64 (l)) (.int .i64 (0)) g.1 g.2 (by omega)
  have y0 := x.1.cell 0 _ rfl
  have y1 := x.1.cell 1 _ rfl
  refine bodyPost_ret (v := .tuple #[.agg #[.int .i64 (l), .int .i64 (0)], .int .i64 0, .int .i64 0]) (by simp [results, Try.results17, go_sem, y0, y1]) rfl ⟨rfl, x.2⟩
set_option maxRecDepth 100000 in
set_option maxHeartbeats 1000000 in
theorem leave_there_0_ok (x0 x2 x3 x4 x5 x6 x7 x8 x9 x10 i s : Int) (w : World) (hw : -9223372036854775808 ≤ s ∧ s ≤ 9223372036854775807) (hc : coversR x0 2 x2 x3 x4 x5 x6 x7 x8 x9 x10 s = (true, 0)) (hJ : jisB x0 2 x2 x3 x4 x5 x6 x7 x8 x9 x10 0 i = true) (hi : i ≠ 0) (hge : 0 ≤ x2) (la : lisB (i - 1) = true) (le : lisB x2 = true) (ls : lisB s = true) (hwi : wrap64 (i - 1) = i - 1) (hb : decide (mn (i - 1) x2 ≤ s ∧ s ≤ mx (i - 1) x2) = true) :
    Calls Try.prog 17 #[.agg #[.int .i64 x0, .int .i64 2, .int .i64 x2, .int .i64 x3, .int .i64 x4, .int .i64 x5, .int .i64 x6, .int .i64 x7, .int .i64 x8, .int .i64 x9, .int .i64 x10], .agg #[.int .i64 0, .int .i64 i], .int .i64 s] w fun e w' => e = .returned (.tuple #[.agg #[.int .i64 (0), .int .i64 (0)], .int .i64 0, .int .i64 0]) ∧ Below w.heap.size w w' := by
  have hk_ : ruleT 2 = 86 := rfl
  have hi' : (i == 0) = false := beq_eq_false_iff_ne.2 hi
  go_enter Try.func17, Try.ntmps17
  go_wp2_with (first
    | (go_at_call 27; refine (covers_any _ _ _ _ _ _ _ _ _ _ _ _ _ hw).mono ?_; rintro e w1 ⟨rfl, hb⟩; rw [hc]; have F1 := j_facts hb; clear hb; obtain ⟨q0, q1, q2, q3, q4, q5, q6, q7, q8, q9, q10⟩ := F1.1.all; have p0 := F1.2.1.cell 0 _ rfl; have p1 := F1.2.1.cell 1 _ rfl; have r0 := F1.2.2.1.cell 0 _ rfl; have r1 := F1.2.2.1.cell 1 _ rfl; have f0 := F1.2.2.1.frozen 0; have f1 := F1.2.2.1.frozen 1)
    | (go_at_call 22; refine (jis_any _ _ _ _ _ _ _ _ _ _ _ _ _ _).mono ?_; rintro e w2 ⟨rfl, hb2⟩; rw [hJ]; clear q0 q1 q2 q3 q4 q5 q6 q7 q8 q9 q10 p0 p1 r0 r1 f0 f1; have F2 := j_more F1 hb2; clear hb2; obtain ⟨q0, q1, q2, q3, q4, q5, q6, q7, q8, q9, q10⟩ := F2.1.all; have p0 := F2.2.1.cell 0 _ rfl; have p1 := F2.2.1.cell 1 _ rfl; have r0 := F2.2.2.1.cell 0 _ rfl; have r1 := F2.2.2.1.cell 1 _ rfl; have f0 := F2.2.2.1.frozen 0; have f1 := F2.2.2.1.frozen 1)
    | go_in)
  go_still_tail 5, (by kernel_rfl)
  still_call ((of_any _ _).mono (fun e w' h => ⟨h.1, h.2.symm⟩))
  rw [hk_]
  repeat still_step
  refine wpStill_nil ?_
  change wpList _ _ _ _ _ w2.drew
  have F3 := (⟨blk_drew F2.1, blk_drew F2.2.1, blk_drew F2.2.2.1, below_drew F2.2.2.2⟩ : Blk w2.drew w.heap.size (tkA x0 2 x2 x3 x4 x5 x6 x7 x8 x9 x10) 23 ∧ Blk w2.drew (w.heap.size + 1) #[.int .i64 0, .int .i64 i] 25 ∧ Blk w2.drew (w.heap.size + 1 + 1) #[.int .i64 0, .int .i64 0] 25 ∧ Below w.heap.size w w2.drew)
  clear q0 q1 q2 q3 q4 q5 q6 q7 q8 q9 q10 p0 p1 r0 r1 f0 f1 F2
  generalize w2.drew = w3 at F3 ⊢
  go_wp2_with (first
    | (go_at_call 97; refine (end_there_0 _ _ _ _ _ _ _ _ _ _ _ _ _).mono ?_; rintro e w4 ⟨rfl, hb4⟩; have F4 := j_more F3 hb4; clear hb4; obtain ⟨q0, q1, q2, q3, q4, q5, q6, q7, q8, q9, q10⟩ := F4.1.all; have p0 := F4.2.1.cell 0 _ rfl; have p1 := F4.2.1.cell 1 _ rfl; have r0 := F4.2.2.1.cell 0 _ rfl; have r1 := F4.2.2.1.cell 1 _ rfl; have f0 := F4.2.2.1.frozen 0; have f1 := F4.2.2.1.frozen 1)
    | (go_at_call 46; (try rw [hwi]); refine (between_in _ _ _ _ la le ls).mono ?_; rintro e w' ⟨rfl, rfl⟩; rw [hb])
    | go_in)
  show bodyPost _ _ _ Exit.ret _ (World.setCell (World.setCell ?W _ _) _ _)
  have g : Blk ?W (w.heap.size + 1 + 1) #[.int .i64 0, .int .i64 0] 25 ∧ Below w.heap.size w ?W := by
    constructor
    · with_reducible repeat (first | exact F4.2.2.1 | refine Blk.alloc ?_ _)
    · with_reducible repeat (first | exact F4.2.2.2 | refine below_alloc ?_ _)
  have x := j_put (.int .i64 (0)) (.int .i64 (0)) g.1 g.2 (by omega)
  have y0 := x.1.cell 0 _ rfl
  have y1 := x.1.cell 1 _ rfl
  refine bodyPost_ret (v := .tuple #[.agg #[.int .i64 (0), .int .i64 (0)], .int .i64 0, .int .i64 0]) (by simp [results, Try.results17, go_sem, y0, y1]) rfl ⟨rfl, x.2⟩
set_option maxRecDepth 100000 in
set_option maxHeartbeats 1000000 in
theorem leave_single_no (x0 x2 x3 x4 x5 x6 x7 x8 x9 x10 l i s : Int) (w : World) (hw : -9223372036854775808 ≤ s ∧ s ≤ 9223372036854775807) (hc : coversR x0 1 x2 x3 x4 x5 x6 x7 x8 x9 x10 s = (true, 0)) (hJ : jisB x0 1 x2 x3 x4 x5 x6 x7 x8 x9 x10 l i = true) (hi : i ≠ 0) (hge : 0 ≤ x3) (la : lisB (i - 1) = true) (le : lisB x3 = true) (ls : lisB s = true) (hwi : wrap64 (i - 1) = i - 1) (hb : decide (mn (i - 1) x3 ≤ s ∧ s ≤ mx (i - 1) x3) = false) :
    Calls Try.prog 17 #[.agg #[.int .i64 x0, .int .i64 1, .int .i64 x2, .int .i64 x3, .int .i64 x4, .int .i64 x5, .int .i64 x6, .int .i64 x7, .int .i64 x8, .int .i64 x9, .int .i64 x10], .agg #[.int .i64 l, .int .i64 i], .int .i64 s] w fun e w' => e = .returned (.tuple #[.agg #[.int .i64 (l), .int .i64 (i)], .int .i64 9, .int .i64 0]) ∧ Below w.heap.size w w' := by
  have hk_ : ruleT 1 = 85 := rfl
  have hi' : (i == 0) = false := beq_eq_false_iff_ne.2 hi
  go_enter Try.func17, Try.ntmps17
  go_wp2_with (first
    | (go_at_call 27; refine (covers_any _ _ _ _ _ _ _ _ _ _ _ _ _ hw).mono ?_; rintro e w1 ⟨rfl, hb⟩; rw [hc]; have F1 := j_facts hb; clear hb; obtain ⟨q0, q1, q2, q3, q4, q5, q6, q7, q8, q9, q10⟩ := F1.1.all; have p0 := F1.2.1.cell 0 _ rfl; have p1 := F1.2.1.cell 1 _ rfl; have r0 := F1.2.2.1.cell 0 _ rfl; have r1 := F1.2.2.1.cell 1 _ rfl; have f0 := F1.2.2.1.frozen 0; have f1 := F1.2.2.1.frozen 1)
    | (go_at_call 22; refine (jis_any _ _ _ _ _ _ _ _ _ _ _ _ _ _).mono ?_; rintro e w2 ⟨rfl, hb2⟩; rw [hJ]; clear q0 q1 q2 q3 q4 q5 q6 q7 q8 q9 q10 p0 p1 r0 r1 f0 f1; have F2 := j_more F1 hb2; clear hb2; obtain ⟨q0, q1, q2, q3, q4, q5, q6, q7, q8, q9, q10⟩ := F2.1.all; have p0 := F2.2.1.cell 0 _ rfl; have p1 := F2.2.1.cell 1 _ rfl; have r0 := F2.2.2.1.cell 0 _ rfl; have r1 := F2.2.2.1.cell 1 _ rfl; have f0 := F2.2.2.1.frozen 0; have f1 := F2.2.2.1.frozen 1)
    | go_in)
  go_still_tail 5, (by kernel_rfl)
  still_call ((of_any _ _).mono (fun e w' h => ⟨h.1, h.2.symm⟩))
  rw [hk_]
  repeat still_step
  refine wpStill_nil ?_
  change wpList _ _ _ _ _ w2.drew
  have F3 := (⟨blk_drew F2.1, blk_drew F2.2.1, blk_drew F2.2.2.1, below_drew F2.2.2.2⟩ : Blk w2.drew w.heap.size (tkA x0 1 x2 x3 x4 x5 x6 x7 x8 x9 x10) 23 ∧ Blk w2.drew (w.heap.size + 1) #[.int .i64 l, .int .i64 i] 25 ∧ Blk w2.drew (w.heap.size + 1 + 1) #[.int .i64 0, .int .i64 0] 25 ∧ Below w.heap.size w w2.drew)
  clear q0 q1 q2 q3 q4 q5 q6 q7 q8 q9 q10 p0 p1 r0 r1 f0 f1 F2
  generalize w2.drew = w3 at F3 ⊢
  go_wp2_with (first
    | (go_at_call 96; refine (end_single _ _ _ _ _ _ _ _ _ _ _ _ _ _).mono ?_; rintro e w4 ⟨rfl, hb4⟩; have F4 := j_more F3 hb4; clear hb4; obtain ⟨q0, q1, q2, q3, q4, q5, q6, q7, q8, q9, q10⟩ := F4.1.all; have p0 := F4.2.1.cell 0 _ rfl; have p1 := F4.2.1.cell 1 _ rfl; have r0 := F4.2.2.1.cell 0 _ rfl; have r1 := F4.2.2.1.cell 1 _ rfl; have f0 := F4.2.2.1.frozen 0; have f1 := F4.2.2.1.frozen 1)
    | (go_at_call 46; (try rw [hwi]); refine (between_in _ _ _ _ la le ls).mono ?_; rintro e w' ⟨rfl, rfl⟩; rw [hb])
    | go_in)
  show bodyPost _ _ _ Exit.ret _ (World.setCell (World.setCell ?W _ _) _ _)
  have g : Blk ?W (w.heap.size + 1 + 1) #[.int .i64 0, .int .i64 0] 25 ∧ Below w.heap.size w ?W := by
    constructor
    · with_reducible repeat (first | exact F4.2.2.1 | refine Blk.alloc ?_ _)
    · with_reducible repeat (first | exact F4.2.2.2 | refine below_alloc ?_ _)
  have x := j_put (.int .i64 (l)) (.int .i64 (i)) g.1 g.2 (by omega)
  have y0 := x.1.cell 0 _ rfl
  have y1 := x.1.cell 1 _ rfl
  refine bodyPost_ret (v := .tuple #[.agg #[.int .i64 (l), .int .i64 (i)], .int .i64 9, .int .i64 0]) (by simp [results, Try.results17, go_sem, y0, y1]) rfl ⟨rfl, x.2⟩
set_option maxRecDepth 100000 in
set_option maxHeartbeats 1000000 in
theorem leave_there_n_no (x0 x2 x3 x4 x5 x6 x7 x8 x9 x10 l i s : Int) (w : World) (hw : -9223372036854775808 ≤ s ∧ s ≤ 9223372036854775807) (hc : coversR x0 2 x2 x3 x4 x5 x6 x7 x8 x9 x10 s = (true, 0)) (hJ : jisB x0 2 x2 x3 x4 x5 x6 x7 x8 x9 x10 l i = true) (hi : i ≠ 0) (hl : l ≠ 0) (hge : 0 ≤ x3) (la : lisB (i - 1) = true) (le : lisB x3 = true) (ls : lisB s = true) (hwi : wrap64 (i - 1) = i - 1) (hb : decide (mn (i - 1) x3 ≤ s ∧ s ≤ mx (i - 1) x3) = false) :
    Calls Try.prog 17 #[.agg #[.int .i64 x0, .int .i64 2, .int .i64 x2, .int .i64 x3, .int .i64 x4, .int .i64 x5, .int .i64 x6, .int .i64 x7, .int .i64 x8, .int .i64 x9, .int .i64 x10], .agg #[.int .i64 l, .int .i64 i], .int .i64 s] w fun e w' => e = .returned (.tuple #[.agg #[.int .i64 (l), .int .i64 (i)], .int .i64 9, .int .i64 0]) ∧ Below w.heap.size w w' := by
  have hk_ : ruleT 2 = 86 := rfl
  have hi' : (i == 0) = false := beq_eq_false_iff_ne.2 hi
  go_enter Try.func17, Try.ntmps17
  go_wp2_with (first
    | (go_at_call 27; refine (covers_any _ _ _ _ _ _ _ _ _ _ _ _ _ hw).mono ?_; rintro e w1 ⟨rfl, hb⟩; rw [hc]; have F1 := j_facts hb; clear hb; obtain ⟨q0, q1, q2, q3, q4, q5, q6, q7, q8, q9, q10⟩ := F1.1.all; have p0 := F1.2.1.cell 0 _ rfl; have p1 := F1.2.1.cell 1 _ rfl; have r0 := F1.2.2.1.cell 0 _ rfl; have r1 := F1.2.2.1.cell 1 _ rfl; have f0 := F1.2.2.1.frozen 0; have f1 := F1.2.2.1.frozen 1)
    | (go_at_call 22; refine (jis_any _ _ _ _ _ _ _ _ _ _ _ _ _ _).mono ?_; rintro e w2 ⟨rfl, hb2⟩; rw [hJ]; clear q0 q1 q2 q3 q4 q5 q6 q7 q8 q9 q10 p0 p1 r0 r1 f0 f1; have F2 := j_more F1 hb2; clear hb2; obtain ⟨q0, q1, q2, q3, q4, q5, q6, q7, q8, q9, q10⟩ := F2.1.all; have p0 := F2.2.1.cell 0 _ rfl; have p1 := F2.2.1.cell 1 _ rfl; have r0 := F2.2.2.1.cell 0 _ rfl; have r1 := F2.2.2.1.cell 1 _ rfl; have f0 := F2.2.2.1.frozen 0; have f1 := F2.2.2.1.frozen 1)
    | go_in)
  go_still_tail 5, (by kernel_rfl)
  still_call ((of_any _ _).mono (fun e w' h => ⟨h.1, h.2.symm⟩))
  rw [hk_]
  repeat still_step
  refine wpStill_nil ?_
  change wpList _ _ _ _ _ w2.drew
  have F3 := (⟨blk_drew F2.1, blk_drew F2.2.1, blk_drew F2.2.2.1, below_drew F2.2.2.2⟩ : Blk w2.drew w.heap.size (tkA x0 2 x2 x3 x4 x5 x6 x7 x8 x9 x10) 23 ∧ Blk w2.drew (w.heap.size + 1) #[.int .i64 l, .int .i64 i] 25 ∧ Blk w2.drew (w.heap.size + 1 + 1) #[.int .i64 0, .int .i64 0] 25 ∧ Below w.heap.size w w2.drew)
  clear q0 q1 q2 q3 q4 q5 q6 q7 q8 q9 q10 p0 p1 r0 r1 f0 f1 F2
  generalize w2.drew = w3 at F3 ⊢
  go_wp2_with (first
    | (go_at_call 97; refine (end_there_n _ _ _ _ _ _ _ _ _ _ _ _ _ _ hl).mono ?_; rintro e w4 ⟨rfl, hb4⟩; have F4 := j_more F3 hb4; clear hb4; obtain ⟨q0, q1, q2, q3, q4, q5, q6, q7, q8, q9, q10⟩ := F4.1.all; have p0 := F4.2.1.cell 0 _ rfl; have p1 := F4.2.1.cell 1 _ rfl; have r0 := F4.2.2.1.cell 0 _ rfl; have r1 := F4.2.2.1.cell 1 _ rfl; have f0 := F4.2.2.1.frozen 0; have f1 := F4.2.2.1.frozen 1)
    | (go_at_call 46; (try rw [hwi]); refine (between_in _ _ _ _ la le ls).mono ?_; rintro e w' ⟨rfl, rfl⟩; rw [hb])
    | go_in)
  show bodyPost _ _ _ Exit.ret _ (World.setCell (World.setCell ?W _ _) _ _)
  have g : Blk ?W (w.heap.size + 1 + 1) #[.int .i64 0, .int .i64 0] 25 ∧ Below w.heap.size w ?W := by
    constructor
    · with_reducible repeat (first | exact F4.2.2.1 | refine Blk.alloc ?_ _)
    · with_reducible repeat (first | exact F4.2.2.2 | refine below_alloc ?_ _)
  have x := j_put (.int .i64 (l)) (.int .i64 (i)) g.1 g.2 (by omega)
  have y0 := x.1.cell 0 _ rfl
  have y1 := x.1.cell 1 _ rfl
  refine bodyPost_ret (v := .tuple #[.agg #[.int .i64 (l), .int .i64 (i)], .int .i64 9, .int .i64 0]) (by simp [results, Try.results17, go_sem, y0, y1]) rfl ⟨rfl, x.2⟩
set_option maxRecDepth 100000 in
set_option maxHeartbeats 1000000 in
theorem leave_there_0_no (x0 x2 x3 x4 x5 x6 x7 x8 x9 x10 i s : Int) (w : World) (hw : -9223372036854775808 ≤ s ∧ s ≤ 9223372036854775807) (hc : coversR x0 2 x2 x3 x4 x5 x6 x7 x8 x9 x10 s = (true, 0)) (hJ : jisB x0 2 x2 x3 x4 x5 x6 x7 x8 x9 x10 0 i = true) (hi : i ≠ 0) (hge : 0 ≤ x2) (la : lisB (i - 1) = true) (le : lisB x2 = true) (ls : lisB s = true) (hwi : wrap64 (i - 1) = i - 1) (hb : decide (mn (i - 1) x2 ≤ s ∧ s ≤ mx (i - 1) x2) = false) :
    Calls Try.prog 17 #[.agg #[.int .i64 x0, .int .i64 2, .int .i64 x2, .int .i64 x3, .int .i64 x4, .int .i64 x5, .int .i64 x6, .int .i64 x7, .int .i64 x8, .int .i64 x9, .int .i64 x10], .agg #[.int .i64 0, .int .i64 i], .int .i64 s] w fun e w' => e = .returned (.tuple #[.agg #[.int .i64 (0), .int .i64 (i)], .int .i64 9, .int .i64 0]) ∧ Below w.heap.size w w' := by
  have hk_ : ruleT 2 = 86 := rfl
  have hi' : (i == 0) = false := beq_eq_false_iff_ne.2 hi
  go_enter Try.func17, Try.ntmps17
  go_wp2_with (first
    | (go_at_call 27; refine (covers_any _ _ _ _ _ _ _ _ _ _ _ _ _ hw).mono ?_; rintro e w1 ⟨rfl, hb⟩; rw [hc]; have F1 := j_facts hb; clear hb; obtain ⟨q0, q1, q2, q3, q4, q5, q6, q7, q8, q9, q10⟩ := F1.1.all; have p0 := F1.2.1.cell 0 _ rfl; have p1 := F1.2.1.cell 1 _ rfl; have r0 := F1.2.2.1.cell 0 _ rfl; have r1 := F1.2.2.1.cell 1 _ rfl; have f0 := F1.2.2.1.frozen 0; have f1 := F1.2.2.1.frozen 1)
    | (go_at_call 22; refine (jis_any _ _ _ _ _ _ _ _ _ _ _ _ _ _).mono ?_; rintro e w2 ⟨rfl, hb2⟩; rw [hJ]; clear q0 q1 q2 q3 q4 q5 q6 q7 q8 q9 q10 p0 p1 r0 r1 f0 f1; have F2 := j_more F1 hb2; clear hb2; obtain ⟨q0, q1, q2, q3, q4, q5, q6, q7, q8, q9, q10⟩ := F2.1.all; have p0 := F2.2.1.cell 0 _ rfl; have p1 := F2.2.1.cell 1 _ rfl; have r0 := F2.2.2.1.cell 0 _ rfl; have r1 := F2.2.2.1.cell 1 _ rfl; have f0 := F2.2.2.1.frozen 0; have f1 := F2.2.2.1.frozen 1)
    | go_in)
  go_still_tail 5, (by kernel_rfl)
  still_call ((of_any _ _).mono (fun e w' h => ⟨h.1, h.2.symm⟩))
  rw [hk_]
  repeat still_step
  refine wpStill_nil ?_
  change wpList _ _ _ _ _ w2.drew
  have F3 := (⟨blk_drew F2.1, blk_drew F2.2.1, blk_drew F2.2.2.1, below_drew F2.2.2.2⟩ : Blk w2.drew w.heap.size (tkA x0 2 x2 x3 x4 x5 x6 x7 x8 x9 x10) 23 ∧ Blk w2.drew (w.heap.size + 1) #[.int .i64 0, .int .i64 i] 25 ∧ Blk w2.drew (w.heap.size + 1 + 1) #[.int .i64 0, .int .i64 0] 25 ∧ Below w.heap.size w w2.drew)
  clear q0 q1 q2 q3 q4 q5 q6 q7 q8 q9 q10 p0 p1 r0 r1 f0 f1 F2
  generalize w2.drew = w3 at F3 ⊢
  go_wp2_with (first
    | (go_at_call 97; refine (end_there_0 _ _ _ _ _ _ _ _ _ _ _ _ _).mono ?_; rintro e w4 ⟨rfl, hb4⟩; have F4 := j_more F3 hb4; clear hb4; obtain ⟨q0, q1, q2, q3, q4, q5, q6, q7, q8, q9, q10⟩ := F4.1.all; have p0 := F4.2.1.cell 0 _ rfl; have p1 := F4.2.1.cell 1 _ rfl; have r0 := F4.2.2.1.cell 0 _ rfl; have r1 := F4.2.2.1.cell 1 _ rfl; have f0 := F4.2.2.1.frozen 0; have f1 := F4.2.2.1.frozen 1)
    | (go_at_call 46; (try rw [hwi]); refine (between_in _ _ _ _ la le ls).mono ?_; rintro e w' ⟨rfl, rfl⟩; rw [hb])
    | go_in)
  show bodyPost _ _ _ Exit.ret _ (World.setCell (World.setCell ?W _ _) _ _)
  have g : Blk ?W (w.heap.size + 1 + 1) #[.int .i64 0, .int .i64 0] 25 ∧ Below w.heap.size w ?W := by
    constructor
    · with_reducible repeat (first | exact F4.2.2.1 | refine Blk.alloc ?_ _)
    · with_reducible repeat (first | exact F4.2.2.2 | refine below_alloc ?_ _)
  have x := j_put (.int .i64 (0)) (.int .i64 (i)) g.1 g.2 (by omega)
  have y0 := x.1.cell 0 _ rfl
  have y1 := x.1.cell 1 _ rfl
  refine bodyPost_ret (v := .tuple #[.agg #[.int .i64 (0), .int .i64 (i)], .int .i64 9, .int .i64 0]) (by simp [results, Try.results17, go_sem, y0, y1]) rfl ⟨rfl, x.2⟩
set_option maxRecDepth 100000 in
set_option maxHeartbeats 1000000 in
theorem leave_legs (x0 x1 x2 x3 x4 x5 x6 x7 x8 x9 x10 l i s : Int) (w : World) (hw : -9223372036854775808 ≤ s ∧ s ≤ 9223372036854775807) (hc : coversR x0 x1 x2 x3 x4 x5 x6 x7 x8 x9 x10 s = (true, 0)) (hJ : jisB x0 x1 x2 x3 x4 x5 x6 x7 x8 x9 x10 l i = true) (hi : i ≠ 0) (h1 : x1 ≠ 1) (h2 : x1 ≠ 2) (h3 : x1 ≠ 3) :
    Calls Try.prog 17 #[.agg #[.int .i64 x0, .int .i64 x1, .int .i64 x2, .int .i64 x3, .int .i64 x4, .int .i64 x5, .int .i64 x6, .int .i64 x7, .int .i64 x8, .int .i64 x9, .int .i64 x10], .agg #[.int .i64 l, .int .i64 i], .int .i64 s] w fun e w' => e = .returned (.tuple #[.agg #[.int .i64 (l), .int .i64 (0)], .int .i64 0, .int .i64 0]) ∧ Below w.heap.size w w' := by
  have hk_ : ruleT x1 = 83 := by unfold ruleT; simp [*]
  have hi' : (i == 0) = false := beq_eq_false_iff_ne.2 hi
  go_enter Try.func17, Try.ntmps17
  go_wp2_with (first
    | (go_at_call 27; refine (covers_any _ _ _ _ _ _ _ _ _ _ _ _ _ hw).mono ?_; rintro e w1 ⟨rfl, hb⟩; rw [hc]; have F1 := j_facts hb; clear hb; obtain ⟨q0, q1, q2, q3, q4, q5, q6, q7, q8, q9, q10⟩ := F1.1.all; have p0 := F1.2.1.cell 0 _ rfl; have p1 := F1.2.1.cell 1 _ rfl; have r0 := F1.2.2.1.cell 0 _ rfl; have r1 := F1.2.2.1.cell 1 _ rfl; have f0 := F1.2.2.1.frozen 0; have f1 := F1.2.2.1.frozen 1)
    | (go_at_call 22; refine (jis_any _ _ _ _ _ _ _ _ _ _ _ _ _ _).mono ?_; rintro e w2 ⟨rfl, hb2⟩; rw [hJ]; clear q0 q1 q2 q3 q4 q5 q6 q7 q8 q9 q10 p0 p1 r0 r1 f0 f1; have F2 := j_more F1 hb2; clear hb2; obtain ⟨q0, q1, q2, q3, q4, q5, q6, q7, q8, q9, q10⟩ := F2.1.all; have p0 := F2.2.1.cell 0 _ rfl; have p1 := F2.2.1.cell 1 _ rfl; have r0 := F2.2.2.1.cell 0 _ rfl; have r1 := F2.2.2.1.cell 1 _ rfl; have f0 := F2.2.2.1.frozen 0; have f1 := F2.2.2.1.frozen 1)
    | go_in)
  go_still_tail 5, (by kernel_rfl)
  still_call ((of_any _ _).mono (fun e w' h => ⟨h.1, h.2.symm⟩))
  rw [hk_]
  repeat still_step
  refine wpStill_nil ?_
  change wpList _ _ _ _ _ w2.drew
  have F3 := (⟨blk_drew F2.1, blk_drew F2.2.1, blk_drew F2.2.2.1, below_drew F2.2.2.2⟩ : Blk w2.drew w.heap.size (tkA x0 x1 x2 x3 x4 x5 x6 x7 x8 x9 x10) 23 ∧ Blk w2.drew (w.heap.size + 1) #[.int .i64 l, .int .i64 i] 25 ∧ Blk w2.drew (w.heap.size + 1 + 1) #[.int .i64 0, .int .i64 0] 25 ∧ Below w.heap.size w w2.drew)
  clear q0 q1 q2 q3 q4 q5 q6 q7 q8 q9 q10 p0 p1 r0 r1 f0 f1 F2
  generalize w2.drew = w3 at F3 ⊢
  go_wp2_with (first
    | (go_at_call 93; refine (end_legs _ _ _ _ _ _ _ _ _ _ _ _ _ _).mono ?_; rintro e w4 ⟨rfl, hb4⟩; have F4 := j_more F3 hb4; clear hb4; obtain ⟨q0, q1, q2, q3, q4, q5, q6, q7, q8, q9, q10⟩ := F4.1.all; have p0 := F4.2.1.cell 0 _ rfl; have p1 := F4.2.1.cell 1 _ rfl; have r0 := F4.2.2.1.cell 0 _ rfl; have r1 := F4.2.2.1.cell 1 _ rfl; have f0 := F4.2.2.1.frozen 0; have f1 := F4.2.2.1.frozen 1)
    | go_in)
  show bodyPost _ _ _ Exit.ret _ (World.setCell (World.setCell ?W _ _) _ _)
  have g : Blk ?W (w.heap.size + 1 + 1) #[.int .i64 0, .int .i64 0] 25 ∧ Below w.heap.size w ?W := by
    constructor
    · with_reducible repeat (first | exact F4.2.2.1 | refine Blk.alloc ?_ _)
    · with_reducible repeat (first | exact F4.2.2.2 | refine below_alloc ?_ _)
  have x := j_put (.int .i64 (l)) (.int .i64 (0)) g.1 g.2 (by omega)
  have y0 := x.1.cell 0 _ rfl
  have y1 := x.1.cell 1 _ rfl
  refine bodyPost_ret (v := .tuple #[.agg #[.int .i64 (l), .int .i64 (0)], .int .i64 0, .int .i64 0]) (by simp [results, Try.results17, go_sem, y0, y1]) rfl ⟨rfl, x.2⟩
set_option maxRecDepth 100000 in
set_option maxHeartbeats 1000000 in
theorem leave_season (x0 x2 x3 x4 x5 x6 x7 x8 x9 x10 l i s : Int) (w : World) (hw : -9223372036854775808 ≤ s ∧ s ≤ 9223372036854775807) (hc : coversR x0 3 x2 x3 x4 x5 x6 x7 x8 x9 x10 s = (true, 0)) (hJ : jisB x0 3 x2 x3 x4 x5 x6 x7 x8 x9 x10 l i = true) (hi : i ≠ 0)  :
    Calls Try.prog 17 #[.agg #[.int .i64 x0, .int .i64 3, .int .i64 x2, .int .i64 x3, .int .i64 x4, .int .i64 x5, .int .i64 x6, .int .i64 x7, .int .i64 x8, .int .i64 x9, .int .i64 x10], .agg #[.int .i64 l, .int .i64 i], .int .i64 s] w fun e w' => e = .returned (.tuple #[.agg #[.int .i64 (l), .int .i64 (0)], .int .i64 0, .int .i64 0]) ∧ Below w.heap.size w w' := by
  have hk_ : ruleT 3 = 87 := rfl
  have hi' : (i == 0) = false := beq_eq_false_iff_ne.2 hi
  go_enter Try.func17, Try.ntmps17
  go_wp2_with (first
    | (go_at_call 27; refine (covers_any _ _ _ _ _ _ _ _ _ _ _ _ _ hw).mono ?_; rintro e w1 ⟨rfl, hb⟩; rw [hc]; have F1 := j_facts hb; clear hb; obtain ⟨q0, q1, q2, q3, q4, q5, q6, q7, q8, q9, q10⟩ := F1.1.all; have p0 := F1.2.1.cell 0 _ rfl; have p1 := F1.2.1.cell 1 _ rfl; have r0 := F1.2.2.1.cell 0 _ rfl; have r1 := F1.2.2.1.cell 1 _ rfl; have f0 := F1.2.2.1.frozen 0; have f1 := F1.2.2.1.frozen 1)
    | (go_at_call 22; refine (jis_any _ _ _ _ _ _ _ _ _ _ _ _ _ _).mono ?_; rintro e w2 ⟨rfl, hb2⟩; rw [hJ]; clear q0 q1 q2 q3 q4 q5 q6 q7 q8 q9 q10 p0 p1 r0 r1 f0 f1; have F2 := j_more F1 hb2; clear hb2; obtain ⟨q0, q1, q2, q3, q4, q5, q6, q7, q8, q9, q10⟩ := F2.1.all; have p0 := F2.2.1.cell 0 _ rfl; have p1 := F2.2.1.cell 1 _ rfl; have r0 := F2.2.2.1.cell 0 _ rfl; have r1 := F2.2.2.1.cell 1 _ rfl; have f0 := F2.2.2.1.frozen 0; have f1 := F2.2.2.1.frozen 1)
    | go_in)
  go_still_tail 5, (by kernel_rfl)
  still_call ((of_any _ _).mono (fun e w' h => ⟨h.1, h.2.symm⟩))
  rw [hk_]
  repeat still_step
  refine wpStill_nil ?_
  change wpList _ _ _ _ _ w2.drew
  have F3 := (⟨blk_drew F2.1, blk_drew F2.2.1, blk_drew F2.2.2.1, below_drew F2.2.2.2⟩ : Blk w2.drew w.heap.size (tkA x0 3 x2 x3 x4 x5 x6 x7 x8 x9 x10) 23 ∧ Blk w2.drew (w.heap.size + 1) #[.int .i64 l, .int .i64 i] 25 ∧ Blk w2.drew (w.heap.size + 1 + 1) #[.int .i64 0, .int .i64 0] 25 ∧ Below w.heap.size w w2.drew)
  clear q0 q1 q2 q3 q4 q5 q6 q7 q8 q9 q10 p0 p1 r0 r1 f0 f1 F2
  generalize w2.drew = w3 at F3 ⊢
  go_wp2_with (first
    | (go_at_call 98; refine (end_season _ _ _ _ _ _ _ _ _ _ _ _ _ _).mono ?_; rintro e w4 ⟨rfl, hb4⟩; have F4 := j_more F3 hb4; clear hb4; obtain ⟨q0, q1, q2, q3, q4, q5, q6, q7, q8, q9, q10⟩ := F4.1.all; have p0 := F4.2.1.cell 0 _ rfl; have p1 := F4.2.1.cell 1 _ rfl; have r0 := F4.2.2.1.cell 0 _ rfl; have r1 := F4.2.2.1.cell 1 _ rfl; have f0 := F4.2.2.1.frozen 0; have f1 := F4.2.2.1.frozen 1)
    | go_in)
  show bodyPost _ _ _ Exit.ret _ (World.setCell (World.setCell ?W _ _) _ _)
  have g : Blk ?W (w.heap.size + 1 + 1) #[.int .i64 0, .int .i64 0] 25 ∧ Below w.heap.size w ?W := by
    constructor
    · with_reducible repeat (first | exact F4.2.2.1 | refine Blk.alloc ?_ _)
    · with_reducible repeat (first | exact F4.2.2.2 | refine below_alloc ?_ _)
  have x := j_put (.int .i64 (l)) (.int .i64 (0)) g.1 g.2 (by omega)
  have y0 := x.1.cell 0 _ rfl
  have y1 := x.1.cell 1 _ rfl
  refine bodyPost_ret (v := .tuple #[.agg #[.int .i64 (l), .int .i64 (0)], .int .i64 0, .int .i64 0]) (by simp [results, Try.results17, go_sem, y0, y1]) rfl ⟨rfl, x.2⟩
end Go.Proofs.Ytdiijjdhofaodaa.G
