/- The walk of line.Zones. -/
import Derived.Test.YtdiijjdhofaodaaGZoneBody
import Derived.BigRegion
import Derived.RangeFuncLeaves
import Derived.OwnWalk
namespace Go.Proofs.Ytdiijjdhofaodaa.G
open Go Go.RowKit Go.Shelf Go.Proofs.YtdiijjdhofaodaaW.PrintWords Go.Proofs.YtdiijjdhofaodaaW.PrintLast Go.Proofs.YtdiijjdhofaodaaW.PrintMore
attribute [local go_sem] Oper.semAt_some
attribute [local go_sem] max2_mx min2_mn max_two min_two
attribute [local go_sem] tab_lookup tabAt_drew_iff
def zonesPost (a b : Int) (w : World) (e : Ending) (w' : World) : Prop := e = .returned (.tuple #[.int .i64 (lowOf a b (zv a) (List.range (many a b))), .int .i64 (highOf a b (zv a) (List.range (many a b))), .int .i64 0]) ∧ Below w.heap.size w w'
set_option maxRecDepth 100000 in
set_option maxHeartbeats 2000000 in
theorem zones_rest (c : Code) (hc : zRest Try.f63 = some c) (w W : World) (a b : Int) (Bt Bl Bh M D : Nat) (hD : w.heap.size ≤ D) (hI : Zi w Bt Bl Bh M (lowOf a b (zv a) (List.range (many a b))) (highOf a b (zv a) (List.range (many a b))) W) (hK : W.heap[D]? = some (.deferred (some [])))
    (v0 v1 v2 v3 v4 v5 v6 v7 v10 v11 v12 v13 v14 v15 v16 v17 v18 v19 v20 v21 v22 v23 v24 v25 v26 v27 v28 v29 v30 v31 v32 v33 v34 v35 v36 v37 v38 v39 v40 v41 : Value) :
    c.wp Try.prog (bodyPostM Fence.wide 5 Try.prog Try.f63 (zonesPost a b w)) { tmps := #[v0, v1, v2, v3, v4, v5, v6, v7, .pointer (some ⟨Bl, 0, none⟩), .pointer (some ⟨Bh, 0, none⟩), v10, v11, v12, v13, v14, v15, v16, v17, v18, v19, v20, v21, v22, v23, v24, v25, v26, v27, v28, v29, v30, v31, v32, v33, v34, v35, v36, v37, v38, v39, v40, v41], defers := [{ target := .collected D, args := #[] }] } W := by
  obtain rfl := Option.some.inj ((rfl : zRest Try.f63 = some _).symm.trans hc)
  clear hc
  obtain ⟨hl, hh, ht, hT', hB⟩ := hI
  generalize hL : lowOf a b (zv a) (List.range (many a b)) = L at *
  generalize hH : highOf a b (zv a) (List.range (many a b)) = H at *
  have cl := hl.cell
  have ch := hh.cell
  go_wp2
  go_region
  all_goals go_wp2
  all_goals refine ⟨by simp, .inl ⟨_, _, rfl, run_takeDeferred hK, ?_⟩⟩
  all_goals exact ⟨_, results_tmp3 rfl _ _ _, by unfold zonesPost; rw [hL, hH]; exact ⟨rfl, hB.drew.trans (belowK_b (w := w) (Nat.le_refl _) W.drew D _ _ hD hK rfl rfl)⟩⟩
set_option maxRecDepth 100000 in
set_option maxHeartbeats 2000000 in
theorem zones_tail (c : Code) (hc : zTail Try.f63 = some c) (w W0 : World) (a b : Int) (ha0 : 0 ≤ a) (ha1 : a < 40) (hb0 : 0 ≤ b) (hb1 : b < 40) (Bt Bl Bh M : Nat) (n1 : Bl ≠ Bh) (n2 : Bt ≠ Bl) (n3 : Bt ≠ Bh) (n8 : w.heap.size ≤ Bl) (n9 : w.heap.size ≤ Bh) (hI : Zi w Bt Bl Bh M (zv a) (zv a) W0)
    (v2 v3 v4 v5 v6 v10 v11 v12 v13 v14 v15 v16 v17 v18 v19 v20 v21 v22 v23 v24 v25 v26 v27 v28 v29 v30 v31 v32 v33 v34 v35 v36 v37 v38 v39 v40 v41 : Value) :
    c.wp Try.prog (bodyPostM Fence.wide 5 Try.prog Try.f63 (zonesPost a b w)) { tmps := #[.int .i64 a, .int .i64 b, v2, v3, v4, v5, v6, .pointer (some ⟨Bt, 0, none⟩), .pointer (some ⟨Bl, 0, none⟩), .pointer (some ⟨Bh, 0, none⟩), v10, v11, v12, v13, v14, v15, v16, v17, v18, v19, v20, v21, v22, v23, v24, v25, v26, v27, v28, v29, v30, v31, v32, v33, v34, v35, v36, v37, v38, v39, v40, v41], defers := [] } W0 := by
  obtain rfl := Option.some.inj ((rfl : zTail Try.f63 = some _).symm.trans hc)
  clear hc
  go_wp2_with (go_at_call 67; refine (callsIn_wide.1 (way_in Fence.wide 1 trivial rfl a b _)).mono ?_; rintro e w2 ⟨rfl, rfl⟩)
  rename_i hk
  obtain ⟨hl, hh, ht, hT', hB⟩ := hI
  have p1 := hl.lt
  have p2 := hh.lt
  have p4 := hT'.lt
  have p5 := hB.size
  have ba : Boxed ((W0.alloc (.cells #[.int .i64 a] 3)).alloc (.cells #[.int .i64 b] 3)) W0.heap.size 3 (.int .i64 a) := (Boxed.new W0 _ _).alloc _
  have bb : Boxed ((W0.alloc (.cells #[.int .i64 a] 3)).alloc (.cells #[.int .i64 b] 3)) (W0.heap.size + 1) 3 (.int .i64 b) := by simpa using Boxed.new (W0.alloc (.cells #[.int .i64 a] 3)) 3 (.int .i64 b)
  refine (wpIn_wide (n := 5)).1 ?_
  refine' wpIn_rangeFunc_ownG (F := Fence.wide) (n := 5) rfl (by omega) (gf := 75) (lb := #[.pointer (some ⟨W0.heap.size, 0, none⟩), .pointer (some ⟨W0.heap.size + 1, 0, none⟩)]) rfl trivial (enters_of Try.func75 (by kernel_rfl) rfl)
    (way_stops Fence.wide 4 trivial rfl (by omega) W0.heap.size a b ha0 ha1 hb0 hb1 _ ba bb) (fun h k => h.tr k) (kab_put (by simp)) (Below.refl _ _) (fun _ => rfl)
    (fun pre W => Zi w Bt Bl Bh M (lowOf a b (zv a) pre) (highOf a b (zv a) pre) W)
    (fun _ _ _ => False) ?hI (fun _ _ _ _ _ hs _ _ => hs) ?h0 _ ?assign ?body ?done ?stop
  case assign =>
    intro l x W K hK
    gi_wp2
    exact hK
  case h0 => exact ⟨(hl.alloc _).alloc _, (hh.alloc _).alloc _, (ht.alloc _).alloc _, tabAt_alloc (tabAt_alloc hT' _) _, (hB.alloc p5 _).alloc (by simp; omega) _⟩
  case stop =>
    rintro D c pre W _ _ h _
    exact h.elim
  case hI =>
    refine OwnFrom.and ((boxed_own Bl _ _).from _) (OwnFrom.and ((boxed_own Bh _ _).from _) (OwnFrom.and ((boxed_own Bt _ _).from _) (OwnFrom.and ?_ (ownFrom_below (Nat.le_refl _) ?_))))
    · intro s W W' row hs hg hr
      refine tab_block hs fun o ho => hg.block _ hs.lt ?_
      intro e
      have h1 := (hr _ e.symm).1
      simp only [World.size_alloc] at h1
      omega
    · simp only [World.size_alloc]
      omega
  case body =>
    intro l pre x W hs hlt
    obtain ⟨s0, s1⟩ := stn_range a b x
    exact zones_body _ rfl l w _ Bt Bl Bh W0.heap.size M n1 n2 n3 (by omega) (by omega) (by omega) (by omega) n8 n9 _ _ _ (stn a b x) _ _ s0 s1 W hs (fun W' h => by simp only [lowOf_snoc, highOf_snoc]; exact h) _ _ _ _ _ _ _ _ _ _ _ _ _ _ _ _ _ _ _ _ _ _ _ _ _ _ _ _ _ _ _ _ _ _ _ _ _ _
  case done =>
    rintro D ys W hD rfl hs hK
    simp only [World.size_alloc] at hD
    exact hk _ _ (zones_rest _ rfl w W a b Bt Bl Bh M D (by omega) hs hK _ _ _ _ _ _ _ _ _ _ _ _ _ _ _ _ _ _ _ _ _ _ _ _ _ _ _ _ _ _ _ _ _ _ _ _ _ _ _ _ )
def World3 (w1 : World) (M : Nat) (z : Int) : World := (((w1.alloc (.cells #[.map (some M)] 74)).alloc (.cells #[.int .i64 z] 3)).alloc (.cells #[.int .i64 z] 3)).drew
theorem world3_facts {w w1 : World} (M : Nat) (z : Int) (hT : TabAt w1 M) (hb : Below w.heap.size w w1) :
    Boxed (World3 w1 M z) w1.heap.size 74 (.map (some M)) ∧ Boxed (World3 w1 M z) (w1.heap.size + 1) 3 (.int .i64 z) ∧ Boxed (World3 w1 M z) (w1.heap.size + 1 + 1) 3 (.int .i64 z) ∧ TabAt (World3 w1 M z) M ∧ Below w.heap.size w (World3 w1 M z) := by
  have hz := hb.size
  refine ⟨?_, ?_, ?_, ?_, ?_⟩
  · exact (((Boxed.new w1 _ _).alloc _).alloc _ : Boxed (((w1.alloc _).alloc _).alloc _) _ _ _)
  · exact ((by simpa using Boxed.new (w1.alloc (.cells #[.map (some M)] 74)) 3 (.int .i64 z) : Boxed _ (w1.heap.size + 1) _ _).alloc _ : Boxed (((w1.alloc _).alloc _).alloc _) _ _ _)
  · exact (by simpa using Boxed.new ((w1.alloc (.cells #[.map (some M)] 74)).alloc (.cells #[.int .i64 z] 3)) 3 (.int .i64 z) : Boxed (((w1.alloc _).alloc _).alloc _) (w1.heap.size + 1 + 1) _ _)
  · exact tabAt_drew (tabAt_alloc (tabAt_alloc (tabAt_alloc hT _) _) _)
  · exact (((hb.alloc (by simpa using hz) _).alloc (by simp; omega) _).alloc (by simp; omega) _).drew
set_option maxRecDepth 100000 in
set_option maxHeartbeats 2000000 in
theorem zones_any (a b : Int) (ha0 : 0 ≤ a) (ha1 : a < 40) (hb0 : 0 ≤ b) (hb1 : b < 40) (w : World) :
    Calls Try.prog 63 #[.int .i64 a, .int .i64 b] w (zonesPost a b w) := by
  refine callsIn_wide.1 (callsIn_of_wp_marks (F := Fence.wide) (n := 5) Try.func63 rfl trivial (wpIn_wide.2 ?_))
  simp only [Try.ntmps63, List.size_toArray, List.length_cons, List.length_nil, Nat.reduceAdd, Nat.reduceSub, Array.replicate_succ, Array.replicate_zero, List.push_toArray, List.append_toArray, List.nil_append, List.cons_append]
  go_wp2_with (first
    | (go_at_call 66; refine (table_any _).mono ?_; rintro e w1 ⟨rfl, ht, hb⟩; have hT : TabAt w1 w.heap.size := ht; clear ht; have hT1 : ∀ o, TabAt (w1.alloc o) w.heap.size := fun o => tabAt_alloc hT o; have hT2 : ∀ o o', TabAt ((w1.alloc o).alloc o') w.heap.size := fun o o' => tabAt_alloc (hT1 o) o'; have hT3 : ∀ o o' o'', TabAt (((w1.alloc o).alloc o').alloc o'') w.heap.size := fun o o' o'' => tabAt_alloc (hT2 o o') o'';  have hz := hb.size)
    | go_in)
  go_region
  all_goals clear hT1 hT2 hT3
  all_goals rename_i hk
  all_goals obtain ⟨bt, b1, b2, T0, hB0⟩ := world3_facts w.heap.size (zv a) hT hb
  · exact hk _ _ (zones_tail _ rfl w (World3 w1 w.heap.size (zv a)) a b ha0 ha1 hb0 hb1 w1.heap.size (w1.heap.size + 1) (w1.heap.size + 1 + 1) w.heap.size (by omega) (by omega) (by omega) (by omega) (by omega) ⟨b1, b2, bt, T0, hB0⟩ _ _ _ _ _ _ _ _ _ _ _ _ _ _ _ _ _ _ _ _ _ _ _ _ _ _ _ _ _ _ _ _ _ _ _ _ _ )
  · exact hk _ _ (zones_tail _ rfl w (World3 w1 w.heap.size (zv a)) a b ha0 ha1 hb0 hb1 w1.heap.size (w1.heap.size + 1 + 1) (w1.heap.size + 1) w.heap.size (by omega) (by omega) (by omega) (by omega) (by omega) ⟨b2, b1, bt, T0, hB0⟩ _ _ _ _ _ _ _ _ _ _ _ _ _ _ _ _ _ _ _ _ _ _ _ _ _ _ _ _ _ _ _ _ _ _ _ _ _ )
end Go.Proofs.Ytdiijjdhofaodaa.G
