/- The walk of line.Stations. -/
import Derived.Test.YtdiijjdhofaodaaGWay
import Derived.BigRegion
import Derived.RangeFuncWrites
import Derived.RangeFuncNested
import Derived.RangeFuncLeaves
import Derived.RegionIn
namespace Go.Proofs.Ytdiijjdhofaodaa.G
open Go Go.RowKit Go.Shelf Go.Proofs.YtdiijjdhofaodaaW.PrintWords Go.Proofs.YtdiijjdhofaodaaW.PrintLast Go.Proofs.YtdiijjdhofaodaaW.PrintMore
attribute [local go_sem] Oper.semAt_some
attribute [local go_sem] max2_mx min2_mn max_two min_two
attribute [local go_sem] tab_lookup
theorem tabAt_drew_iff2 {w : World} {b : Nat} : TabAt w.drew b ↔ TabAt w b := Iff.rfl
attribute [local go_sem] tabAt_drew_iff2
/-- The stations among the first of the line whose zone is a to b. -/
def stOf (a b : Int) (l : List Nat) : List Int := (l.map (stn 0 39)).filter fun s => decide (a ≤ zv s ∧ zv s ≤ b)
theorem stOf_hit (a b : Int) (l : List Nat) (j : Nat) (h : a ≤ zv (stn 0 39 j) ∧ zv (stn 0 39 j) ≤ b) : stOf a b (l ++ [j]) = stOf a b l ++ [stn 0 39 j] := by simp [stOf, h]
theorem stOf_miss (a b : Int) (l : List Nat) (j : Nat) (h : ¬ (a ≤ zv (stn 0 39 j) ∧ zv (stn 0 39 j) ≤ b)) : stOf a b (l ++ [j]) = stOf a b l := by
  simp only [stOf, List.map_append, List.filter_append, List.map_cons, List.map_nil, List.filter_cons, decide_eq_true_eq, if_neg h, List.filter_nil, List.append_nil]
theorem stOf_len (a b : Int) (l : List Nat) : (stOf a b l).length ≤ l.length := by
  have h := List.length_filter_le (fun s => decide (a ≤ zv s ∧ zv s ≤ b)) (l.map (stn 0 39))
  simpa [stOf] using h
theorem many_line : many 0 39 = 40 := by decide
def World4 (w1 : World) (M : Nat) : World := ((((w1.alloc (.cells #[.map (some M)] 74)).alloc (.cells #[.slice none 0 0] 35)).alloc (.cells #[.int .i64 0] 3)).alloc (.cells #[.int .i64 39] 3))
theorem world4_facts {w w1 : World} (M : Nat) (hT : TabAt w1 M) (hb : Below w.heap.size w w1) :
    Boxed (World4 w1 M) w1.heap.size 74 (.map (some M)) ∧ Boxed (World4 w1 M) (w1.heap.size + 1) 35 (.slice none 0 0) ∧
    Boxed (World4 w1 M) (w1.heap.size + 1 + 1) 3 (.int .i64 0) ∧ Boxed (World4 w1 M) (w1.heap.size + 1 + 1 + 1) 3 (.int .i64 39) ∧ TabAt (World4 w1 M) M ∧ Below w1.heap.size w1 (World4 w1 M) ∧ (World4 w1 M).heap.size = w1.heap.size + 4 := by
  have hz := hb.size
  refine ⟨?_, ?_, ?_, ?_, ?_, ?_, ?_⟩
  · exact (((Boxed.new _ _ _).alloc _).alloc _).alloc _
  · exact ((by simpa using Boxed.new (w1.alloc (.cells #[.map (some M)] 74)) 35 (.slice none 0 0) : Boxed _ (w1.heap.size + 1) _ _).alloc _).alloc _
  · exact (by simpa using Boxed.new ((w1.alloc (.cells #[.map (some M)] 74)).alloc (.cells #[.slice none 0 0] 35)) 3 (.int .i64 0) : Boxed _ (w1.heap.size + 1 + 1) _ _).alloc _
  · exact (by simpa using Boxed.new (((w1.alloc (.cells #[.map (some M)] 74)).alloc (.cells #[.slice none 0 0] 35)).alloc (.cells #[.int .i64 0] 3)) 3 (.int .i64 39) : Boxed _ (w1.heap.size + 1 + 1 + 1) _ _)
  · exact tabAt_alloc (tabAt_alloc (tabAt_alloc (tabAt_alloc hT _) _) _) _
  · exact (((((Below.refl _ w1).alloc (Nat.le_refl _) _).alloc (by simp) _).alloc (by simp; omega) _).alloc (by simp; omega) _)
  · simp [World4]
theorem info_int : (Try.prog.info? 3).map (fun i => (i.zero, i.size, i.bytes)) = some (some (.int .i64 0), 1, 8) := by kernel_rfl
set_option maxRecDepth 100000 in
set_option maxHeartbeats 4000000 in
theorem stations_in (a b : Int) (ha0 : 1 ≤ a) (ha1 : a ≤ b) (hb1 : b ≤ 6) (w : World) :
    Calls Try.prog 34 #[.int .i64 a, .int .i64 b] w fun e w' => ∃ v, e = .returned (.tuple #[v, .int .i64 0]) ∧ w'.ownsRow w.heap.size 3 1 v (stOf a b (List.range 40)).length ((stOf a b (List.range 40)).map (Value.int .i64)) ∧ Below w.heap.size w w' := by
  obtain ⟨i0, hi, hz0, hz1, hz2⟩ := info_parts info_int
  refine callsIn_wide.1 (callsIn_of_wp_marks (F := Fence.wide) (n := 5) Try.func34 rfl trivial (wpIn_wide.2 ?_))
  simp only [Try.ntmps34, List.size_toArray, List.length_cons, List.length_nil, Nat.reduceAdd, Nat.reduceSub, Array.replicate_succ, Array.replicate_zero, List.push_toArray, List.append_toArray, List.nil_append, List.cons_append]
  go_wp2_with (first
    | (go_at_call 66; refine (table_any _).mono ?_; rintro e w1 ⟨rfl, ht, hb⟩; have hT : TabAt w1 _ := ht; clear ht; have hz := hb.size)
    | (go_at_call 67; refine (callsIn_wide.1 (way_in Fence.wide 1 trivial rfl 0 39 _)).mono ?_; rintro e w2 ⟨rfl, rfl⟩))
  have pA : Boxed w1 w.heap.size 3 (.int .i64 a) := (hb.block _ (by simp only [World.size_alloc]; omega)).trans ((Boxed.new w 3 (.int .i64 a)).alloc _)
  have pB : Boxed w1 (w.heap.size + 1) 3 (.int .i64 b) := (hb.block _ (by simp only [World.size_alloc]; omega)).trans (by simpa using Boxed.new (w.alloc (.cells #[.int .i64 a] 3)) 3 (.int .i64 b) : Boxed _ (w.heap.size + 1) _ _)
  have hb' : Below w.heap.size w w1 := (((Below.refl _ w).alloc (Nat.le_refl _) (.cells #[.int .i64 a] 3)).alloc (by simp) (.cells #[.int .i64 b] 3)).trans (hb.mono (by simp; omega))
  simp only [World.size_alloc] at hT hz
  clear hb
  obtain ⟨bt, bo, ba, bb, T0, hB0, hN⟩ := world4_facts (w.heap.size + 1 + 1) hT hb'
  change Code.wp _ _ _ _ (World4 w1 (w.heap.size + 1 + 1))
  have qA : Boxed (World4 w1 (w.heap.size + 1 + 1)) w.heap.size 3 (.int .i64 a) := (hB0.block _ (by omega)).trans pA
  have qB : Boxed (World4 w1 (w.heap.size + 1 + 1)) (w.heap.size + 1) 3 (.int .i64 b) := (hB0.block _ (by omega)).trans pB
  have hB1 : Below w.heap.size w (World4 w1 (w.heap.size + 1 + 1)) := hb'.trans (hB0.mono (by omega))
  clear hT hb' pA pB hB0
  generalize World4 w1 (w.heap.size + 1 + 1) = W0 at *
  generalize w1.heap.size = Bt at *
  refine (wpIn_wide (n := 5)).1 ?_
  refine' wpIn_rangeFunc_ownG (F := Fence.wide) (n := 5) rfl (by omega) (gf := 75) (lb := #[.pointer (some ⟨Bt + 1 + 1, 0, none⟩), .pointer (some ⟨Bt + 1 + 1 + 1, 0, none⟩)]) rfl trivial (enters_of Try.func75 (by kernel_rfl) rfl)
    (way_stops Fence.wide 4 trivial rfl (by omega) (Bt + 1 + 1) 0 39 (by omega) (by omega) (by omega) (by omega) _ ba bb) (fun h k => h.tr k) (kab_put (by omega)) (Below.refl _ _) (fun _ => rfl)
    (fun pre W => (∃ v, Boxed W (Bt + 1) 35 v ∧ W.ownsRow W0.heap.size 3 1 v (stOf a b pre).length ((stOf a b pre).map (Value.int .i64)) ∧ True) ∧ Boxed W w.heap.size 3 (.int .i64 a) ∧ Boxed W (w.heap.size + 1) 3 (.int .i64 b) ∧ Boxed W Bt 74 (.map (some (w.heap.size + 1 + 1))) ∧ TabAt W (w.heap.size + 1 + 1) ∧ Below w.heap.size w W ∧ W0.heap.size ≤ W.heap.size)
    (fun _ _ _ => False) ?hI (fun _ _ _ _ _ hs _ _ => hs) ?h0 _ ?assign ?body ?done ?stop
  case assign =>
    intro l x W K hK
    gi_wp2
    exact hK
  case h0 => exact ⟨⟨_, bo, World.ownsRow_nil _ _ _ _, trivial⟩, qA, qB, bt, T0, hB1, Nat.le_refl _⟩
  case stop =>
    rintro D c pre W _ _ h _
    exact h.elim
  case hI =>
    refine OwnFrom.and (Own.from (holdsRow_own W0.heap.size (Bt + 1) 35 3 1 (fun pre => (stOf a b pre).length) (fun pre => (stOf a b pre).map (Value.int .i64)) (fun _ _ => True)) _) (OwnFrom.and ((boxed_own _ _ _).from _) (OwnFrom.and ((boxed_own _ _ _).from _) (OwnFrom.and ((boxed_own _ _ _).from _) (OwnFrom.and ?_ (OwnFrom.and (ownFrom_below (Nat.le_refl _) ?_) ?_)))))
    · intro s W W' row hs hg hr
      refine tab_block hs fun o ho => hg.block _ hs.lt ?_
      intro e
      have h1 := (hr _ e.symm).1
      have h2 := T0.lt
      omega
    · exact hB1.size
    · intro s W W' row hs hg hr
      exact Nat.le_trans hs hg.size
  case body =>
    rintro l pre x W ⟨⟨v, hv, hrow, -⟩, hA, hBB, ht, hT', hB, hNN⟩ hlt
    obtain ⟨s0, s1⟩ := stn_range 0 39 x
    have hvc := hv.cell
    have hAc := hA.cell
    have hBc := hBB.cell
    have htc := ht.cell
    have hpl := stOf_len a b pre
    rw [many_line] at hlt
    gi_wp2_with (gi_at_builtin; refine wpListIn_append_own _ rfl _ _ 35 rfl W0.heap.size 3 i0 (.int .i64 0) 1 8 Try.underlying35 hi hz0 hz1 hz2 rfl (by decide) _ _ _ rfl (hrow.alloc _) ⟨W.heap.size, 0, none⟩ 1 1 [.int .i64 (stn 0 39 x)] rfl rfl (cell_one_new _ _ _) (by simp [Value.oneCell']) (by unfold maxLen; omega) (by omega) (by simp; omega) ?_; intro v' w2 hown' hgrow _; obtain ⟨g', cap', rfl⟩ := ownsRow_succ hown'; obtain ⟨hv1, hv2, hr2, hk2, hb2⟩ := hv.appended (by decide) (own_weaken hrow (by omega : Bt ≤ W0.heap.size)) (by omega) (by omega) (own_weaken hown' (by omega : Bt ≤ W0.heap.size)) hgrow; have hc1 := hv1.cell; have hf1 := hv1.frozen)
    · have hgrow' : (W.alloc (.cells #[.int .i64 (stn 0 39 x)] 3)).grownBy w2 v.ownBlock := hgrow
      have hblk : ∀ j, j < W0.heap.size → j ≠ Bt + 1 → (w2.setCell { block := Bt + 1, off := 0 } (Value.slice (some { block := g', off := 0 }) ((stOf a b pre).length + 1) cap')).heap[j]? = W.heap[j]? := fun j hj hne =>
        (Below.heap_setCell _ _ _ _ hne).trans ((hgrow'.block j (by simp only [World.size_alloc]; omega) (fun e => by have := own_base hrow j e.symm; omega)).trans (Below.heap_alloc _ _ _ (by omega)))
      have own2 := own_move hown' (w1 := w2.setCell { block := Bt + 1, off := 0 } (Value.slice (some { block := g', off := 0 }) ((stOf a b pre).length + 1) cap')) (fun k hk => Below.heap_setCell _ _ _ _ (by have := own_base hown' k hk; show k ≠ Bt + 1; omega))
      exact ⟨hk2.from _, ⟨hblk _ (by omega) (by omega), hblk _ (by omega) (by omega)⟩, ⟨_, hv2, by rw [stOf_hit a b pre x ⟨by assumption, by assumption⟩]; simpa using own2, trivial⟩, (hblk _ (by omega) (by omega)).trans hA, (hblk _ (by omega) (by omega)).trans hBB, (hblk _ (by omega) (by omega)).trans ht, tab_block hT' (fun _ _ => hblk _ (by omega) (by omega)), hB.trans (hb2.mono (by omega)), Nat.le_trans hNN hb2.size⟩
    · exact ⟨KeepsFrom.refl _ _, ⟨rfl, rfl⟩, ⟨v, hv, by rw [stOf_miss a b pre x (by omega)]; exact hrow, trivial⟩, hA, hBB, ht, hT', hB, hNN⟩
    · rw [← stOf_miss a b pre x (by omega), hN] at hrow
      rw [hN] at hNN
      obtain ⟨r1, r2⟩ := hrow
      exact ⟨KeepsFrom.refl _ _, ⟨rfl, rfl⟩, ⟨v, hv, r1, r2⟩, hA, hBB, ht, hT', hB, hNN⟩
  case done =>
    rintro D ys W hD rfl ⟨⟨v, hv, hrow, -⟩, hA, hBB, ht, hT', hB, hNN⟩ hK
    have hvc := hv.cell
    rw [many_line] at hrow
    go_wp2
    refine ⟨by simp, .inl ⟨_, _, rfl, run_takeDeferred hK, ?_⟩⟩
    exact ⟨_, results_tmp2 rfl _ _ _, v, rfl, own_weaken (ownsRow_putObj hrow _ hK rfl) hB1.size, hB.trans (belowK_b (w := w) (Nat.le_refl _) W D _ _ (by have := hB1.size; omega) hK rfl rfl)⟩
end Go.Proofs.Ytdiijjdhofaodaa.G
