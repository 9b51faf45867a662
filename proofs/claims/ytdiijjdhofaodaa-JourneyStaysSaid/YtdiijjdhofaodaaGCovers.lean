/- The walk of ticket.Covers. -/
import Derived.Test.YtdiijjdhofaodaaGTickIs
import Derived.Test.YtdiijjdhofaodaaGZone
import Derived.Test.YtdiijjdhofaodaaGWay
import Derived.RangeFuncBox
namespace Go.Proofs.Ytdiijjdhofaodaa.G
open Go Go.RowKit Go.Proofs.YtdiijjdhofaodaaW.PrintWords Go.Proofs.YtdiijjdhofaodaaW.PrintLast Go.Proofs.YtdiijjdhofaodaaW.PrintMore
/-- Block b holds these cells. -/
def Blk (W : World) (b : Nat) (cs : Array Value) (t : TypeId) : Prop := W.heap[b]? = some (.cells cs t (0, 0))
theorem Blk.lt {W : World} {b : Nat} {cs : Array Value} {t : TypeId} (h : Blk W b cs t) : b < W.heap.size := (Array.getElem?_eq_some_iff.1 h).1
theorem Blk.new (W : World) (cs : Array Value) (t : TypeId) : Blk (W.alloc (.cells cs t)) W.heap.size cs t := World.alloc_heap_new W _
theorem Blk.alloc {W : World} {b : Nat} {cs : Array Value} {t : TypeId} (h : Blk W b cs t) (o : Obj) : Blk (W.alloc o) b cs t := (Below.heap_alloc W o b h.lt).trans h
theorem Blk.below {W W' : World} {b B : Nat} {cs : Array Value} {t : TypeId} (h : Blk W b cs t) (hb : Below B W W') (hB : b < B) : Blk W' b cs t := (hb.block b hB).trans h
theorem Blk.cell {W : World} {b : Nat} {cs : Array Value} {t : TypeId} (h : Blk W b cs t) (i : Nat) (v : Value) (hv : cs[i]? = some v) : W.cell? ⟨b, i, none⟩ = some v := by
  simp [World.cell?, show W.heap[b]? = _ from h, hv]
def tkA (x0 x1 x2 x3 x4 x5 x6 x7 x8 x9 x10 : Int) : Array Value := #[.int .i64 x0, .int .i64 x1, .int .i64 x2, .int .i64 x3, .int .i64 x4, .int .i64 x5, .int .i64 x6, .int .i64 x7, .int .i64 x8, .int .i64 x9, .int .i64 x10]
theorem Blk.all {W : World} {b : Nat} {x0 x1 x2 x3 x4 x5 x6 x7 x8 x9 x10 : Int} {t : TypeId} (h : Blk W b (tkA x0 x1 x2 x3 x4 x5 x6 x7 x8 x9 x10) t) :
    W.cell? ⟨b, 0, none⟩ = some (.int .i64 x0) ∧ W.cell? ⟨b, 1, none⟩ = some (.int .i64 x1) ∧ W.cell? ⟨b, 2, none⟩ = some (.int .i64 x2) ∧ W.cell? ⟨b, 3, none⟩ = some (.int .i64 x3) ∧ W.cell? ⟨b, 4, none⟩ = some (.int .i64 x4) ∧ W.cell? ⟨b, 5, none⟩ = some (.int .i64 x5) ∧ W.cell? ⟨b, 6, none⟩ = some (.int .i64 x6) ∧ W.cell? ⟨b, 7, none⟩ = some (.int .i64 x7) ∧ W.cell? ⟨b, 8, none⟩ = some (.int .i64 x8) ∧ W.cell? ⟨b, 9, none⟩ = some (.int .i64 x9) ∧ W.cell? ⟨b, 10, none⟩ = some (.int .i64 x10) :=
  ⟨h.cell 0 _ rfl, h.cell 1 _ rfl, h.cell 2 _ rfl, h.cell 3 _ rfl, h.cell 4 _ rfl, h.cell 5 _ rfl, h.cell 6 _ rfl, h.cell 7 _ rfl, h.cell 8 _ rfl, h.cell 9 _ rfl, h.cell 10 _ rfl⟩
/-- What lies in the world behind the look-up of the zone. -/
theorem cov_facts {w w1 : World} {x0 x1 x2 x3 x4 x5 x6 x7 x8 x9 x10 s : Int} (z : Int) (hb : Below ((w.alloc (.cells (tkA x0 x1 x2 x3 x4 x5 x6 x7 x8 x9 x10) 23)).alloc (.cells #[.int .i64 s] 3)).heap.size ((w.alloc (.cells (tkA x0 x1 x2 x3 x4 x5 x6 x7 x8 x9 x10) 23)).alloc (.cells #[.int .i64 s] 3)) w1) :
    Blk (w1.alloc (.cells #[.int .i64 z] 3)) w.heap.size (tkA x0 x1 x2 x3 x4 x5 x6 x7 x8 x9 x10) 23 ∧ Blk (w1.alloc (.cells #[.int .i64 z] 3)) (w.heap.size + 1) #[.int .i64 s] 3 ∧ Blk (w1.alloc (.cells #[.int .i64 z] 3)) w1.heap.size #[.int .i64 z] 3 ∧ Below w.heap.size w (w1.alloc (.cells #[.int .i64 z] 3)) := by
  have hz := hb.size
  simp only [World.size_alloc] at hz
  refine ⟨Blk.alloc (Blk.below ((Blk.new w _ _).alloc _) hb (by simp only [World.size_alloc]; omega)) _, Blk.alloc (Blk.below (b := w.heap.size + 1) (by simpa using Blk.new (w.alloc (.cells (tkA x0 x1 x2 x3 x4 x5 x6 x7 x8 x9 x10) 23)) #[.int .i64 s] 3) hb (by simp only [World.size_alloc]; omega)) _, Blk.new _ _ _, ?_⟩
  have h0 : Below w.heap.size w ((w.alloc (.cells (tkA x0 x1 x2 x3 x4 x5 x6 x7 x8 x9 x10) 23)).alloc (.cells #[.int .i64 s] 3)) := ((Below.refl _ w).alloc (Nat.le_refl _) _).alloc (by simp) _
  exact (h0.trans (hb.mono (by simp only [World.size_alloc]; omega))).alloc (by omega) _
set_option maxRecDepth 100000 in
set_option maxHeartbeats 1000000 in
theorem covers_season (x0 x2 x3 x4 x5 x6 x7 x8 x9 x10 s : Int) (w : World) (s0 : 0 ≤ s) (s1 : s < 40) (hIs : isB x0 3 x2 x3 x4 x5 x6 x7 x8 x9 x10 = true) :
    Calls Try.prog 27 #[.agg #[.int .i64 x0, .int .i64 3, .int .i64 x2, .int .i64 x3, .int .i64 x4, .int .i64 x5, .int .i64 x6, .int .i64 x7, .int .i64 x8, .int .i64 x9, .int .i64 x10], .int .i64 s] w fun e w' => e = .returned (.tuple #[.bool (betw (zv s) x2 x3), .int .i64 0]) ∧ Below w.heap.size w w' := by
  go_enter Try.func27, Try.ntmps27
  go_wp2_with (first
    | (go_at_call 50; refine (zone_in _ _ s0 s1).mono ?_; rintro e w1 ⟨rfl, hb⟩; obtain ⟨bt, bs, bz, HB⟩ := cov_facts (zv s) hb; obtain ⟨q0, q1, q2, q3, q4, q5, q6, q7, q8, q9, q10⟩ := bt.all; clear hb)
    | (go_at_call 30; refine (is_any _ _ _ _ _ _ _ _ _ _ _ _).mono ?_; rintro e w2 ⟨rfl, hb2⟩; rw [hIs]; clear q0 q1 q2 q3 q4 q5 q6 q7 q8 q9 q10; have ct := bt.below hb2 bt.lt; have cs := bs.below hb2 bs.lt; have cz := bz.below hb2 bz.lt; have HC := HB.trans (hb2.mono HB.size); obtain ⟨q0, q1, q2, q3, q4, q5, q6, q7, q8, q9, q10⟩ := ct.all; have r2 : ∀ o, (w2.alloc o).cell? ⟨w.heap.size, 2, none⟩ = some (.int .i64 x2) := fun o => (ct.alloc o).cell 2 _ rfl; have r3 : ∀ o, (w2.alloc o).cell? ⟨w.heap.size, 3, none⟩ = some (.int .i64 x3) := fun o => (ct.alloc o).cell 3 _ rfl; have rz : ∀ o, (w2.alloc o).cell? ⟨w1.heap.size, 0, none⟩ = some (.int .i64 (zv s)) := fun o => (cz.alloc o).cell 0 _ rfl)
    | (go_at_call 53; refine (within_any _ _ _ _).mono ?_; rintro e w' ⟨rfl, rfl⟩)
    | go_in)
  go_ret2
  exact ⟨rfl, HC.alloc HC.size _⟩
attribute [local go_sem] max2_mx min2_mn max_two min_two
theorem lis_eq {s : Int} {b : Bool} (h : lisB s = b) (w : World) : Calls Try.prog 43 #[.int .i64 s] w fun e w' => e = .returned (.bool b) ∧ w = w' := h ▸ lis_any s w
theorem between_in (a b s : Int) (w : World) (ha : lisB a = true) (hb : lisB b = true) (hs : lisB s = true) :
    Calls Try.prog 46 #[.int .i64 a, .int .i64 b, .int .i64 s] w fun e w' => e = .returned (.tuple #[.bool (decide (mn a b ≤ s ∧ s ≤ mx a b)), .int .i64 0]) ∧ w = w' := by
  by_cases h : mn a b ≤ s
  · rw [show decide (mn a b ≤ s ∧ s ≤ mx a b) = decide (s ≤ mx a b) from decide_eq_decide.2 (by omega)]
    go_enter Try.func46, Try.ntmps46
    go_wp2_with (go_at_call 43; refine (lis_eq (by assumption) _).mono ?_; rintro e w' ⟨rfl, rfl⟩)
    go_ret2
    exact ⟨rfl, rfl⟩
  · rw [show decide (mn a b ≤ s ∧ s ≤ mx a b) = false from decide_eq_false (by omega)]
    go_enter Try.func46, Try.ntmps46
    go_wp2_with (go_at_call 43; refine (lis_eq (by assumption) _).mono ?_; rintro e w' ⟨rfl, rfl⟩)
    go_ret2
    exact ⟨rfl, rfl⟩
set_option maxRecDepth 100000 in
set_option maxHeartbeats 1000000 in
theorem covers_other_yes (x0 x1 x2 x3 x4 x5 x6 x7 x8 x9 x10 s : Int) (w : World) (s0 : 0 ≤ s) (s1 : s < 40) (hIs : isB x0 x1 x2 x3 x4 x5 x6 x7 x8 x9 x10 = true) (hk : x1 ≠ 3) (l2 : lisB x2 = true) (l3 : lisB x3 = true) (hd : decide (mn x2 x3 ≤ s ∧ s ≤ mx x2 x3) = true) :
    Calls Try.prog 27 #[.agg #[.int .i64 x0, .int .i64 x1, .int .i64 x2, .int .i64 x3, .int .i64 x4, .int .i64 x5, .int .i64 x6, .int .i64 x7, .int .i64 x8, .int .i64 x9, .int .i64 x10], .int .i64 s] w fun e w' => e = .returned (.tuple #[.bool true, .int .i64 0]) ∧ Below w.heap.size w w' := by
  have e3 : (x1 == 3) = false := beq_eq_false_iff_ne.2 hk
  have ls : lisB s = true := decide_eq_true ⟨s0, s1⟩
  go_enter Try.func27, Try.ntmps27
  go_wp2_with (first
    | (go_at_call 50; refine (zone_in _ _ s0 s1).mono ?_; rintro e w1 ⟨rfl, hb⟩; obtain ⟨bt, bs, bz, HB⟩ := cov_facts (zv s) hb; obtain ⟨q0, q1, q2, q3, q4, q5, q6, q7, q8, q9, q10⟩ := bt.all; clear hb)
    | (go_at_call 30; refine (is_any _ _ _ _ _ _ _ _ _ _ _ _).mono ?_; rintro e w2 ⟨rfl, hb2⟩; rw [hIs]; clear q0 q1 q2 q3 q4 q5 q6 q7 q8 q9 q10; have ct := bt.below hb2 bt.lt; have cs := bs.below hb2 bs.lt; have HC := HB.trans (hb2.mono HB.size); obtain ⟨q0, q1, q2, q3, q4, q5, q6, q7, q8, q9, q10⟩ := ct.all; have r2 : ∀ o, (w2.alloc o).cell? ⟨w.heap.size, 2, none⟩ = some (.int .i64 x2) := fun o => (ct.alloc o).cell 2 _ rfl; have r3 : ∀ o, (w2.alloc o).cell? ⟨w.heap.size, 3, none⟩ = some (.int .i64 x3) := fun o => (ct.alloc o).cell 3 _ rfl; have rs : ∀ o, (w2.alloc o).cell? ⟨w.heap.size + 1, 0, none⟩ = some (.int .i64 s) := fun o => (cs.alloc o).cell 0 _ rfl)
    | (go_at_call 46; refine (between_in _ _ _ _ l2 l3 ls).mono ?_; rintro e w' ⟨rfl, rfl⟩; (try rw [hd]))
    | go_in)
  go_ret2
  exact ⟨rfl, HC.alloc HC.size _⟩
set_option maxRecDepth 100000 in
set_option maxHeartbeats 1000000 in
theorem covers_other_no (x0 x1 x2 x3 x4 x5 x6 x7 x8 x9 x10 s : Int) (w : World) (s0 : 0 ≤ s) (s1 : s < 40) (hIs : isB x0 x1 x2 x3 x4 x5 x6 x7 x8 x9 x10 = true) (hk : x1 ≠ 3) (l2 : lisB x2 = true) (l3 : lisB x3 = true) (hd : decide (mn x2 x3 ≤ s ∧ s ≤ mx x2 x3) = false) :
    Calls Try.prog 27 #[.agg #[.int .i64 x0, .int .i64 x1, .int .i64 x2, .int .i64 x3, .int .i64 x4, .int .i64 x5, .int .i64 x6, .int .i64 x7, .int .i64 x8, .int .i64 x9, .int .i64 x10], .int .i64 s] w fun e w' => e = .returned (.tuple #[.bool false, .int .i64 0]) ∧ Below w.heap.size w w' := by
  have e3 : (x1 == 3) = false := beq_eq_false_iff_ne.2 hk
  have ls : lisB s = true := decide_eq_true ⟨s0, s1⟩
  go_enter Try.func27, Try.ntmps27
  go_wp2_with (first
    | (go_at_call 50; refine (zone_in _ _ s0 s1).mono ?_; rintro e w1 ⟨rfl, hb⟩; obtain ⟨bt, bs, bz, HB⟩ := cov_facts (zv s) hb; obtain ⟨q0, q1, q2, q3, q4, q5, q6, q7, q8, q9, q10⟩ := bt.all; clear hb)
    | (go_at_call 30; refine (is_any _ _ _ _ _ _ _ _ _ _ _ _).mono ?_; rintro e w2 ⟨rfl, hb2⟩; rw [hIs]; clear q0 q1 q2 q3 q4 q5 q6 q7 q8 q9 q10; have ct := bt.below hb2 bt.lt; have cs := bs.below hb2 bs.lt; have HC := HB.trans (hb2.mono HB.size); obtain ⟨q0, q1, q2, q3, q4, q5, q6, q7, q8, q9, q10⟩ := ct.all; have r2 : ∀ o, (w2.alloc o).cell? ⟨w.heap.size, 2, none⟩ = some (.int .i64 x2) := fun o => (ct.alloc o).cell 2 _ rfl; have r3 : ∀ o, (w2.alloc o).cell? ⟨w.heap.size, 3, none⟩ = some (.int .i64 x3) := fun o => (ct.alloc o).cell 3 _ rfl; have rs : ∀ o, (w2.alloc o).cell? ⟨w.heap.size + 1, 0, none⟩ = some (.int .i64 s) := fun o => (cs.alloc o).cell 0 _ rfl)
    | (go_at_call 46; refine (between_in _ _ _ _ l2 l3 ls).mono ?_; rintro e w' ⟨rfl, rfl⟩; (try rw [hd]))
    | go_in)
  go_ret2
  exact ⟨rfl, HC.alloc HC.size _⟩
set_option maxRecDepth 100000 in
set_option maxHeartbeats 1000000 in
theorem covers_off (x0 x1 x2 x3 x4 x5 x6 x7 x8 x9 x10 s : Int) (w : World) (hw : -9223372036854775808 ≤ s ∧ s ≤ 9223372036854775807) (hns : ¬ (0 ≤ s ∧ s < 40)) (hIs : isB x0 x1 x2 x3 x4 x5 x6 x7 x8 x9 x10 = true) :
    Calls Try.prog 27 #[.agg #[.int .i64 x0, .int .i64 x1, .int .i64 x2, .int .i64 x3, .int .i64 x4, .int .i64 x5, .int .i64 x6, .int .i64 x7, .int .i64 x8, .int .i64 x9, .int .i64 x10], .int .i64 s] w fun e w' => e = .returned (.tuple #[.bool false, .int .i64 1]) ∧ Below w.heap.size w w' := by
  go_enter Try.func27, Try.ntmps27
  go_wp2_with (first
    | (go_at_call 50; refine (zone_out _ _ hw hns).mono ?_; rintro e w1 ⟨rfl, hb⟩; obtain ⟨bt, bs, bz, HB⟩ := cov_facts 0 hb; obtain ⟨q0, q1, q2, q3, q4, q5, q6, q7, q8, q9, q10⟩ := bt.all; clear hb)
    | (go_at_call 30; refine (is_any _ _ _ _ _ _ _ _ _ _ _ _).mono ?_; rintro e w2 ⟨rfl, hb2⟩; rw [hIs]; clear q0 q1 q2 q3 q4 q5 q6 q7 q8 q9 q10; have ct := bt.below hb2 bt.lt; have cs := bs.below hb2 bs.lt; have HC := HB.trans (hb2.mono HB.size); obtain ⟨q0, q1, q2, q3, q4, q5, q6, q7, q8, q9, q10⟩ := ct.all; have r2 : ∀ o, (w2.alloc o).cell? ⟨w.heap.size, 2, none⟩ = some (.int .i64 x2) := fun o => (ct.alloc o).cell 2 _ rfl; have r3 : ∀ o, (w2.alloc o).cell? ⟨w.heap.size, 3, none⟩ = some (.int .i64 x3) := fun o => (ct.alloc o).cell 3 _ rfl; have rs : ∀ o, (w2.alloc o).cell? ⟨w.heap.size + 1, 0, none⟩ = some (.int .i64 s) := fun o => (cs.alloc o).cell 0 _ rfl)
    | go_in)
  go_ret2
  exact ⟨rfl, HC⟩
set_option maxRecDepth 100000 in
set_option maxHeartbeats 1000000 in
theorem covers_bad (x0 x1 x2 x3 x4 x5 x6 x7 x8 x9 x10 s : Int) (w : World) (hw : -9223372036854775808 ≤ s ∧ s ≤ 9223372036854775807) (hIs : isB x0 x1 x2 x3 x4 x5 x6 x7 x8 x9 x10 = false) :
    Calls Try.prog 27 #[.agg #[.int .i64 x0, .int .i64 x1, .int .i64 x2, .int .i64 x3, .int .i64 x4, .int .i64 x5, .int .i64 x6, .int .i64 x7, .int .i64 x8, .int .i64 x9, .int .i64 x10], .int .i64 s] w fun e w' => e = .returned (.tuple #[.bool false, .int .i64 1]) ∧ Below w.heap.size w w' := by
  go_enter Try.func27, Try.ntmps27
  go_wp2_with (first
    | (go_at_call 50; refine (zone_any _ _ hw).mono ?_; rintro e w1 ⟨rfl, hb⟩; obtain ⟨bt, bs, bz, HB⟩ := cov_facts (zoneR s).1 hb; obtain ⟨q0, q1, q2, q3, q4, q5, q6, q7, q8, q9, q10⟩ := bt.all; clear hb)
    | (go_at_call 30; refine (is_any _ _ _ _ _ _ _ _ _ _ _ _).mono ?_; rintro e w2 ⟨rfl, hb2⟩; rw [hIs]; clear q0 q1 q2 q3 q4 q5 q6 q7 q8 q9 q10; have ct := bt.below hb2 bt.lt; have cs := bs.below hb2 bs.lt; have HC := HB.trans (hb2.mono HB.size); obtain ⟨q0, q1, q2, q3, q4, q5, q6, q7, q8, q9, q10⟩ := ct.all; have r2 : ∀ o, (w2.alloc o).cell? ⟨w.heap.size, 2, none⟩ = some (.int .i64 x2) := fun o => (ct.alloc o).cell 2 _ rfl; have r3 : ∀ o, (w2.alloc o).cell? ⟨w.heap.size, 3, none⟩ = some (.int .i64 x3) := fun o => (ct.alloc o).cell 3 _ rfl; have rs : ∀ o, (w2.alloc o).cell? ⟨w.heap.size + 1, 0, none⟩ = some (.int .i64 s) := fun o => (cs.alloc o).cell 0 _ rfl)
    | go_in)
  go_ret2
  exact ⟨rfl, HC⟩
def coversR (x0 x1 x2 x3 x4 x5 x6 x7 x8 x9 x10 s : Int) : Bool × Int := if isB x0 x1 x2 x3 x4 x5 x6 x7 x8 x9 x10 = true ∧ 0 ≤ s ∧ s < 40 then ((if x1 = 3 then betw (zv s) x2 x3 else decide (mn x2 x3 ≤ s ∧ s ≤ mx x2 x3)), 0) else (false, 1)
theorem isB_way {x0 x1 x2 x3 x4 x5 x6 x7 x8 x9 x10 : Int} (h : isB x0 x1 x2 x3 x4 x5 x6 x7 x8 x9 x10 = true) (hk : x1 ≠ 3) : lisB x2 = true ∧ lisB x3 = true := by
  unfold isB at h
  rw [if_neg hk] at h
  simp only [wayB, Bool.and_eq_true] at h
  exact ⟨h.1.2.1.1, h.1.2.1.2⟩
theorem covers_any (x0 x1 x2 x3 x4 x5 x6 x7 x8 x9 x10 s : Int) (w : World) (hw : -9223372036854775808 ≤ s ∧ s ≤ 9223372036854775807) :
    Calls Try.prog 27 #[.agg #[.int .i64 x0, .int .i64 x1, .int .i64 x2, .int .i64 x3, .int .i64 x4, .int .i64 x5, .int .i64 x6, .int .i64 x7, .int .i64 x8, .int .i64 x9, .int .i64 x10], .int .i64 s] w fun e w' => e = .returned (.tuple #[.bool (coversR x0 x1 x2 x3 x4 x5 x6 x7 x8 x9 x10 s).1, .int .i64 (coversR x0 x1 x2 x3 x4 x5 x6 x7 x8 x9 x10 s).2]) ∧ Below w.heap.size w w' := by
  unfold coversR
  cases hIs : isB x0 x1 x2 x3 x4 x5 x6 x7 x8 x9 x10
  · rw [if_neg (by simp)]
    exact covers_bad x0 x1 x2 x3 x4 x5 x6 x7 x8 x9 x10 s w hw hIs
  · by_cases hs : 0 ≤ s ∧ s < 40
    · rw [if_pos ⟨rfl, hs⟩]
      by_cases hk : x1 = 3
      · rw [if_pos hk]
        subst hk
        exact covers_season x0 x2 x3 x4 x5 x6 x7 x8 x9 x10 s w hs.1 hs.2 hIs
      · rw [if_neg hk]
        obtain ⟨l2, l3⟩ := isB_way hIs hk
        cases hd : decide (mn x2 x3 ≤ s ∧ s ≤ mx x2 x3)
        · exact covers_other_no x0 x1 x2 x3 x4 x5 x6 x7 x8 x9 x10 s w hs.1 hs.2 hIs hk l2 l3 hd
        · exact covers_other_yes x0 x1 x2 x3 x4 x5 x6 x7 x8 x9 x10 s w hs.1 hs.2 hIs hk l2 l3 hd
    · rw [if_neg (fun h => hs h.2)]
      exact covers_off x0 x1 x2 x3 x4 x5 x6 x7 x8 x9 x10 s w hw hs hIs
end Go.Proofs.Ytdiijjdhofaodaa.G
