/- The walks of layout.Suits and journey.Is: for any ticket and journey. -/
import Derived.Test.YtdiijjdhofaodaaGJourney
namespace Go.Proofs.Ytdiijjdhofaodaa.G
open Go Go.RowKit Go.Proofs.YtdiijjdhofaodaaW.PrintWords Go.Proofs.YtdiijjdhofaodaaW.PrintLast Go.Proofs.YtdiijjdhofaodaaW.PrintMore
theorem Blk.frozen {W : World} {b : Nat} {cs : Array Value} {t : TypeId} (h : Blk W b cs t) (i : Nat) : W.frozen? ⟨b, i, none⟩ = false := by simp [World.frozen?, show W.heap[b]? = _ from h]
def suitsB (l i u : Int) : Bool := decide (0 ≤ l) && decide (l ≤ u) && decide (0 ≤ i) && decide (i ≤ 40)
theorem suits_any (x0 x1 x2 x3 x4 x5 x6 x7 x8 x9 x10 l i : Int) (w : World) :
    Calls Try.prog 24 #[.agg #[.int .i64 x0, .int .i64 x1, .int .i64 x2, .int .i64 x3, .int .i64 x4, .int .i64 x5, .int .i64 x6, .int .i64 x7, .int .i64 x8, .int .i64 x9, .int .i64 x10], .agg #[.int .i64 l, .int .i64 i]] w fun e w' => e = .returned (.bool (suitsB l i x9)) ∧ Below w.heap.size w w' := by
  by_cases h1 : 0 ≤ l <;> by_cases h2 : l ≤ x9 <;> by_cases h3 : 0 ≤ i
  all_goals
    go_enter Try.func24, Try.ntmps24
    go_wp2
    go_ret
    exact ⟨by simp [suitsB, *] <;> omega, by repeat' (first | exact Below.refl _ _ | refine Below.alloc ?_ (by first | exact Nat.le_refl _ | (simp only [World.size_alloc]; omega)) _)⟩
def jisB (x0 x1 x2 x3 x4 x5 x6 x7 x8 x9 x10 l i : Int) : Bool := isB x0 x1 x2 x3 x4 x5 x6 x7 x8 x9 x10 && suitsB l i x9 && (decide (i = 0) || ((coversR x0 x1 x2 x3 x4 x5 x6 x7 x8 x9 x10 (i - 1)).1 && (decide (x1 = 3) || decide (l < x9))))
/-- What lies behind a call: the ticket's box and the journey's. -/
theorem jj_facts {w w1 : World} {x0 x1 x2 x3 x4 x5 x6 x7 x8 x9 x10 l i : Int} (hb : Below ((w.alloc (.cells (tkA x0 x1 x2 x3 x4 x5 x6 x7 x8 x9 x10) 23)).alloc (.cells #[.int .i64 l, .int .i64 i] 25)).heap.size ((w.alloc (.cells (tkA x0 x1 x2 x3 x4 x5 x6 x7 x8 x9 x10) 23)).alloc (.cells #[.int .i64 l, .int .i64 i] 25)) w1) :
    Blk w1 w.heap.size (tkA x0 x1 x2 x3 x4 x5 x6 x7 x8 x9 x10) 23 ∧ Blk w1 (w.heap.size + 1) #[.int .i64 l, .int .i64 i] 25 ∧ Below w.heap.size w w1 := by
  refine ⟨Blk.below ((Blk.new w _ _).alloc _) hb (by simp only [World.size_alloc]; omega), Blk.below (b := w.heap.size + 1) (by simpa using Blk.new (w.alloc (.cells (tkA x0 x1 x2 x3 x4 x5 x6 x7 x8 x9 x10) 23)) #[.int .i64 l, .int .i64 i] 25) hb (by simp only [World.size_alloc]; omega), ?_⟩
  exact (((Below.refl _ w).alloc (Nat.le_refl _) _).alloc (by simp) _).trans (hb.mono (by simp only [World.size_alloc]; omega))
theorem jj_more {w w1 w2 : World} {x0 x1 x2 x3 x4 x5 x6 x7 x8 x9 x10 l i : Int} {n : Nat} (h : Blk w1 n (tkA x0 x1 x2 x3 x4 x5 x6 x7 x8 x9 x10) 23 ∧ Blk w1 (n + 1) #[.int .i64 l, .int .i64 i] 25 ∧ Below w.heap.size w w1) (hb : Below w1.heap.size w1 w2) :
    Blk w2 n (tkA x0 x1 x2 x3 x4 x5 x6 x7 x8 x9 x10) 23 ∧ Blk w2 (n + 1) #[.int .i64 l, .int .i64 i] 25 ∧ Below w.heap.size w w2 :=
  ⟨h.1.below hb h.1.lt, h.2.1.below hb h.2.1.lt, h.2.2.trans (hb.mono h.2.2.size)⟩
section
variable (x0 x1 x2 x3 x4 x5 x6 x7 x8 x9 x10 l i : Int) (w : World)
set_option maxRecDepth 100000 in
set_option maxHeartbeats 1000000 in
theorem jis_bad (hI : isB x0 x1 x2 x3 x4 x5 x6 x7 x8 x9 x10 = false) :
    Calls Try.prog 22 #[.agg #[.int .i64 x0, .int .i64 x1, .int .i64 x2, .int .i64 x3, .int .i64 x4, .int .i64 x5, .int .i64 x6, .int .i64 x7, .int .i64 x8, .int .i64 x9, .int .i64 x10], .agg #[.int .i64 l, .int .i64 i]] w fun e w' => e = .returned (.bool false) ∧ Below w.heap.size w w' := by
  go_enter Try.func22, Try.ntmps22
  go_wp2_with (first
    | (go_at_call 30; refine (is_any _ _ _ _ _ _ _ _ _ _ _ _).mono ?_; rintro e w1 ⟨rfl, hb⟩; rw [hI]; have F1 := jj_facts hb; clear hb)
    | go_in)
  go_ret
  exact ⟨rfl, F1.2.2⟩
set_option maxRecDepth 100000 in
set_option maxHeartbeats 1000000 in
theorem jis_unsuited (hI : isB x0 x1 x2 x3 x4 x5 x6 x7 x8 x9 x10 = true) (hS : suitsB l i x9 = false) :
    Calls Try.prog 22 #[.agg #[.int .i64 x0, .int .i64 x1, .int .i64 x2, .int .i64 x3, .int .i64 x4, .int .i64 x5, .int .i64 x6, .int .i64 x7, .int .i64 x8, .int .i64 x9, .int .i64 x10], .agg #[.int .i64 l, .int .i64 i]] w fun e w' => e = .returned (.bool false) ∧ Below w.heap.size w w' := by
  go_enter Try.func22, Try.ntmps22
  go_wp2_with (first
    | (go_at_call 30; refine (is_any _ _ _ _ _ _ _ _ _ _ _ _).mono ?_; rintro e w1 ⟨rfl, hb⟩; rw [hI]; have F1 := jj_facts hb; clear hb; obtain ⟨q0, q1, q2, q3, q4, q5, q6, q7, q8, q9, q10⟩ := F1.1.all; have p0 := F1.2.1.cell 0 _ rfl; have p1 := F1.2.1.cell 1 _ rfl)
    | (go_at_call 24; refine (suits_any _ _ _ _ _ _ _ _ _ _ _ _ _ _).mono ?_; rintro e w2 ⟨rfl, hb⟩; rw [hS]; clear q0 q1 q2 q3 q4 q5 q6 q7 q8 q9 q10 p0 p1; have F2 := jj_more F1 hb; clear hb)
    | go_in)
  go_ret
  exact ⟨rfl, F2.2.2⟩
set_option maxRecDepth 100000 in
set_option maxHeartbeats 1000000 in
theorem jis_out (hI : isB x0 x1 x2 x3 x4 x5 x6 x7 x8 x9 x10 = true) (hS : suitsB l 0 x9 = true) :
    Calls Try.prog 22 #[.agg #[.int .i64 x0, .int .i64 x1, .int .i64 x2, .int .i64 x3, .int .i64 x4, .int .i64 x5, .int .i64 x6, .int .i64 x7, .int .i64 x8, .int .i64 x9, .int .i64 x10], .agg #[.int .i64 l, .int .i64 0]] w fun e w' => e = .returned (.bool true) ∧ Below w.heap.size w w' := by
  go_enter Try.func22, Try.ntmps22
  go_wp2_with (first
    | (go_at_call 30; refine (is_any _ _ _ _ _ _ _ _ _ _ _ _).mono ?_; rintro e w1 ⟨rfl, hb⟩; rw [hI]; have F1 := jj_facts hb; clear hb; obtain ⟨q0, q1, q2, q3, q4, q5, q6, q7, q8, q9, q10⟩ := F1.1.all; have p0 := F1.2.1.cell 0 _ rfl; have p1 := F1.2.1.cell 1 _ rfl)
    | (go_at_call 24; refine (suits_any _ _ _ _ _ _ _ _ _ _ _ _ _ _).mono ?_; rintro e w2 ⟨rfl, hb⟩; rw [hS]; clear q0 q1 q2 q3 q4 q5 q6 q7 q8 q9 q10 p0 p1; have F2 := jj_more F1 hb; clear hb; have p1 := F2.2.1.cell 1 _ rfl)
    | go_in)
  go_ret
  exact ⟨rfl, F2.2.2⟩
set_option maxRecDepth 100000 in
set_option maxHeartbeats 1000000 in
theorem jis_in (b : Bool) (hI : isB x0 x1 x2 x3 x4 x5 x6 x7 x8 x9 x10 = true) (hS : suitsB l i x9 = true) (hi : i ≠ 0) (hw : -9223372036854775808 ≤ i - 1 ∧ i - 1 ≤ 9223372036854775807) (hc : coversR x0 x1 x2 x3 x4 x5 x6 x7 x8 x9 x10 (i - 1) = (b, 0)) :
    Calls Try.prog 22 #[.agg #[.int .i64 x0, .int .i64 x1, .int .i64 x2, .int .i64 x3, .int .i64 x4, .int .i64 x5, .int .i64 x6, .int .i64 x7, .int .i64 x8, .int .i64 x9, .int .i64 x10], .agg #[.int .i64 l, .int .i64 i]] w fun e w' => e = .returned (.bool (b && (decide (x1 = 3) || decide (l < x9)))) ∧ Below w.heap.size w w' := by
  have hi' : (i == 0) = false := beq_eq_false_iff_ne.2 hi
  have h1 : wrap64 (i - 1) = i - 1 := tw64 hw.1 hw.2
  cases b
  · go_enter Try.func22, Try.ntmps22
    go_wp2_with (first
      | (go_at_call 30; refine (is_any _ _ _ _ _ _ _ _ _ _ _ _).mono ?_; rintro e w1 ⟨rfl, hb⟩; rw [hI]; have F1 := jj_facts hb; clear hb; obtain ⟨q0, q1, q2, q3, q4, q5, q6, q7, q8, q9, q10⟩ := F1.1.all; have p0 := F1.2.1.cell 0 _ rfl; have p1 := F1.2.1.cell 1 _ rfl)
      | (go_at_call 24; refine (suits_any _ _ _ _ _ _ _ _ _ _ _ _ _ _).mono ?_; rintro e w2 ⟨rfl, hb⟩; rw [hS]; clear q0 q1 q2 q3 q4 q5 q6 q7 q8 q9 q10 p0 p1; have F2 := jj_more F1 hb; clear hb; obtain ⟨q0, q1, q2, q3, q4, q5, q6, q7, q8, q9, q10⟩ := F2.1.all; have p0 := F2.2.1.cell 0 _ rfl; have p1 := F2.2.1.cell 1 _ rfl)
      | (go_at_call 27; (try rw [h1]); refine (covers_any _ _ _ _ _ _ _ _ _ _ _ _ _ hw).mono ?_; rintro e w3 ⟨rfl, hb⟩; rw [hc]; clear q0 q1 q2 q3 q4 q5 q6 q7 q8 q9 q10 p0 p1; have F3 := jj_more F2 hb; clear hb; obtain ⟨q0, q1, q2, q3, q4, q5, q6, q7, q8, q9, q10⟩ := F3.1.all; have p0 := F3.2.1.cell 0 _ rfl; have p1 := F3.2.1.cell 1 _ rfl)
      | go_in)
    go_ret
    exact ⟨rfl, F3.2.2⟩
  · by_cases h3 : x1 = 3
    · subst h3
      go_enter Try.func22, Try.ntmps22
      go_wp2_with (first
        | (go_at_call 30; refine (is_any _ _ _ _ _ _ _ _ _ _ _ _).mono ?_; rintro e w1 ⟨rfl, hb⟩; rw [hI]; have F1 := jj_facts hb; clear hb; obtain ⟨q0, q1, q2, q3, q4, q5, q6, q7, q8, q9, q10⟩ := F1.1.all; have p0 := F1.2.1.cell 0 _ rfl; have p1 := F1.2.1.cell 1 _ rfl)
        | (go_at_call 24; refine (suits_any _ _ _ _ _ _ _ _ _ _ _ _ _ _).mono ?_; rintro e w2 ⟨rfl, hb⟩; rw [hS]; clear q0 q1 q2 q3 q4 q5 q6 q7 q8 q9 q10 p0 p1; have F2 := jj_more F1 hb; clear hb; obtain ⟨q0, q1, q2, q3, q4, q5, q6, q7, q8, q9, q10⟩ := F2.1.all; have p0 := F2.2.1.cell 0 _ rfl; have p1 := F2.2.1.cell 1 _ rfl)
        | (go_at_call 27; (try rw [h1]); refine (covers_any _ _ _ _ _ _ _ _ _ _ _ _ _ hw).mono ?_; rintro e w3 ⟨rfl, hb⟩; rw [hc]; clear q0 q1 q2 q3 q4 q5 q6 q7 q8 q9 q10 p0 p1; have F3 := jj_more F2 hb; clear hb; obtain ⟨q0, q1, q2, q3, q4, q5, q6, q7, q8, q9, q10⟩ := F3.1.all; have p0 := F3.2.1.cell 0 _ rfl; have p1 := F3.2.1.cell 1 _ rfl)
        | go_in)
      go_ret
      exact ⟨rfl, F3.2.2⟩
    · have h3' : (x1 == 3) = false := beq_eq_false_iff_ne.2 h3
      rw [decide_eq_false h3, Bool.false_or, Bool.true_and]
      go_enter Try.func22, Try.ntmps22
      go_wp2_with (first
        | (go_at_call 30; refine (is_any _ _ _ _ _ _ _ _ _ _ _ _).mono ?_; rintro e w1 ⟨rfl, hb⟩; rw [hI]; have F1 := jj_facts hb; clear hb; obtain ⟨q0, q1, q2, q3, q4, q5, q6, q7, q8, q9, q10⟩ := F1.1.all; have p0 := F1.2.1.cell 0 _ rfl; have p1 := F1.2.1.cell 1 _ rfl)
        | (go_at_call 24; refine (suits_any _ _ _ _ _ _ _ _ _ _ _ _ _ _).mono ?_; rintro e w2 ⟨rfl, hb⟩; rw [hS]; clear q0 q1 q2 q3 q4 q5 q6 q7 q8 q9 q10 p0 p1; have F2 := jj_more F1 hb; clear hb; obtain ⟨q0, q1, q2, q3, q4, q5, q6, q7, q8, q9, q10⟩ := F2.1.all; have p0 := F2.2.1.cell 0 _ rfl; have p1 := F2.2.1.cell 1 _ rfl)
        | (go_at_call 27; (try rw [h1]); refine (covers_any _ _ _ _ _ _ _ _ _ _ _ _ _ hw).mono ?_; rintro e w3 ⟨rfl, hb⟩; rw [hc]; clear q0 q1 q2 q3 q4 q5 q6 q7 q8 q9 q10 p0 p1; have F3 := jj_more F2 hb; clear hb; obtain ⟨q0, q1, q2, q3, q4, q5, q6, q7, q8, q9, q10⟩ := F3.1.all; have p0 := F3.2.1.cell 0 _ rfl; have p1 := F3.2.1.cell 1 _ rfl)
        | go_in)
      go_ret
      exact ⟨rfl, F3.2.2⟩
theorem jis_any :
    Calls Try.prog 22 #[.agg #[.int .i64 x0, .int .i64 x1, .int .i64 x2, .int .i64 x3, .int .i64 x4, .int .i64 x5, .int .i64 x6, .int .i64 x7, .int .i64 x8, .int .i64 x9, .int .i64 x10], .agg #[.int .i64 l, .int .i64 i]] w fun e w' => e = .returned (.bool (jisB x0 x1 x2 x3 x4 x5 x6 x7 x8 x9 x10 l i)) ∧ Below w.heap.size w w' := by
  unfold jisB
  cases hI : isB x0 x1 x2 x3 x4 x5 x6 x7 x8 x9 x10
  · exact jis_bad x0 x1 x2 x3 x4 x5 x6 x7 x8 x9 x10 l i w hI
  · cases hS : suitsB l i x9
    · exact jis_unsuited x0 x1 x2 x3 x4 x5 x6 x7 x8 x9 x10 l i w hI hS
    · by_cases hi : i = 0
      · subst hi
        exact jis_out x0 x1 x2 x3 x4 x5 x6 x7 x8 x9 x10 l w hI hS
      · have hr : 0 ≤ i ∧ i ≤ 40 := by simp only [suitsB, Bool.and_eq_true, decide_eq_true_eq] at hS; omega
        rw [decide_eq_false hi, Bool.false_or, Bool.true_and, Bool.true_and]
        refine jis_in x0 x1 x2 x3 x4 x5 x6 x7 x8 x9 x10 l i w _ hI hS hi (by omega) (Prod.ext rfl ?_)
        unfold coversR
        rw [if_pos ⟨hI, by omega, by omega⟩]
end
end Go.Proofs.Ytdiijjdhofaodaa.G
