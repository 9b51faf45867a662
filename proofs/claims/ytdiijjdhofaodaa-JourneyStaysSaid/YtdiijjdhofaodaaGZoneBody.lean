/- The round of line.Zones: all orders of its region. -/
import Derived.Test.YtdiijjdhofaodaaGWay
import Derived.Test.YtdiijjdhofaodaaGInRound
import Derived.RegionIn
import Derived.RangeFuncWrites
import Derived.RangeFuncNested
namespace Go.Proofs.Ytdiijjdhofaodaa.G
open Go Go.RowKit Go.Shelf Go.Proofs.YtdiijjdhofaodaaW.PrintWords Go.Proofs.YtdiijjdhofaodaaW.PrintLast Go.Proofs.YtdiijjdhofaodaaW.PrintMore
attribute [local go_sem] Oper.semAt_some
attribute [local go_sem] max2_mx min2_mn max_two min_two
theorem tabAt_drew_iff {w : World} {b : Nat} : TabAt w.drew b ↔ TabAt w b := Iff.rfl
attribute [local go_sem] tab_lookup tabAt_drew_iff
/-! Parts of a function's code. -/
def cSnd : Option Code → Option Code | some (.seq _ b) => some b | _ => none
def cFst : Option Code → Option Code | some (.seq a _) => some a | _ => none
def cBlk : Option Code → Option Code | some (.block _ c) => some c | _ => none
def cRound : Option Code → Option Code | some (.rangeFunc _ _ _ b) => some b | _ => none
def zTail (f : Func) : Option Code := cSnd (cSnd (cSnd (cSnd f.body)))
def zRest (f : Func) : Option Code := cSnd (zTail f)
def zBody (f : Func) : Option Code := cRound (cBlk (cSnd (cFst (zTail f))))
/-- The lowest and the highest zone among the first stations of a way, and z. -/
def lowOf (a b z : Int) (l : List Nat) : Int := l.foldl (fun x j => mn x (zv (stn a b j))) z
def highOf (a b z : Int) (l : List Nat) : Int := l.foldl (fun x j => mx x (zv (stn a b j))) z
theorem lowOf_snoc (a b z : Int) (l : List Nat) (j : Nat) : lowOf a b z (l ++ [j]) = mn (lowOf a b z l) (zv (stn a b j)) := by simp [lowOf]
theorem highOf_snoc (a b z : Int) (l : List Nat) (j : Nat) : highOf a b z (l ++ [j]) = mx (highOf a b z l) (zv (stn a b j)) := by simp [highOf]
theorem kab_drew (Ba : Nat) (W : World) : Kab Ba W W.drew := ⟨rfl, rfl⟩
theorem kab_setCell {Ba : Nat} (W : World) (B : Nat) (v : Value) (h0 : Ba ≠ B) (h1 : Ba + 1 ≠ B) : Kab Ba W (W.setCell ⟨B, 0, none⟩ v) := ⟨Below.heap_setCell _ _ _ _ h0, Below.heap_setCell _ _ _ _ h1⟩
/-- What holds in each round: the boxes and the map. -/
def Zi (w : World) (Bt Bl Bh M : Nat) (L H : Int) (W : World) : Prop :=
  Boxed W Bl 3 (.int .i64 L) ∧ Boxed W Bh 3 (.int .i64 H) ∧ Boxed W Bt 74 (.map (some M)) ∧ TabAt W M ∧ Below w.heap.size w W
set_option maxRecDepth 100000 in
set_option maxHeartbeats 4000000 in
theorem zones_body (c : Code) (hc : zBody Try.f63 = some c) (l : Nat) (w : World) (Nb Bt Bl Bh Ba M : Nat) (n1 : Bl ≠ Bh) (n2 : Bt ≠ Bl) (n3 : Bt ≠ Bh) (n4 : Ba ≠ Bl) (n5 : Ba ≠ Bh) (n6 : Ba + 1 ≠ Bl) (n7 : Ba + 1 ≠ Bh) (n8 : w.heap.size ≤ Bl) (n9 : w.heap.size ≤ Bh)
    (I : List Nat → World → Prop) (Ix : Code → List Nat → World → Prop) (ys : List Nat) (s L H : Int) (s0 : 0 ≤ s) (s1 : s < 40) (W : World) (hI : Zi w Bt Bl Bh M L H W) (hJ : ∀ W', Zi w Bt Bl Bh M (mn L (zv s)) (mx H (zv s)) W' → I ys W')
    (v0 v1 v2 v3 v4 v5 v6 v11 v12 v13 v14 v15 v16 v17 v18 v19 v20 v21 v22 v23 v24 v25 v26 v27 v28 v29 v30 v31 v32 v33 v34 v35 v36 v37 v38 v39 v40 v41 : Value) :
    c.wpIn (Fence.wide.inRound l) 3 Try.prog (ownPostG Nb (Kab Ba) I Ix ys W) { tmps := #[v0, v1, v2, v3, v4, v5, v6, .pointer (some ⟨Bt, 0, none⟩), .pointer (some ⟨Bl, 0, none⟩), .pointer (some ⟨Bh, 0, none⟩), .int .i64 s, v11, v12, v13, v14, v15, v16, v17, v18, v19, v20, v21, v22, v23, v24, v25, v26, v27, v28, v29, v30, v31, v32, v33, v34, v35, v36, v37, v38, v39, v40, v41], defers := [] } W := by
  obtain rfl := Option.some.inj ((rfl : zBody Try.f63 = some _).symm.trans hc)
  clear hc
  obtain ⟨hl, hh, ht, hT', hB⟩ := hI
  have cl := hl.cell
  have fl := hl.frozen
  have ch := hh.cell
  have fh := hh.frozen
  have ct := ht.cell
  have hl' : Boxed W.drew Bl 3 (.int .i64 L) := hl
  have hh1 := Boxed.other (W := W.drew) hh (Ne.symm n1) (.int .i64 (mn L (zv s)))
  have c1h := hh1.cell
  have f1h := hh1.frozen
  have c1t := (Boxed.other (W := W.drew) ht n2 (.int .i64 (mn L (zv s)))).cell
  have T1 := tabAt_setCell (w := W.drew) hT' ⟨Bl, 0, none⟩ (.int .i64 (mn L (zv s)))
  have T2 : TabAt (W.setCell ⟨Bl, 0, none⟩ (.int .i64 (mn L (zv s)))) M := T1
  have hfin : KeepsFrom Nb W ((W.drew.setCell ⟨Bl, 0, none⟩ (.int .i64 (mn L (zv s)))).setCell ⟨Bh, 0, none⟩ (.int .i64 (mx H (zv s)))) ∧ Kab Ba W ((W.drew.setCell ⟨Bl, 0, none⟩ (.int .i64 (mn L (zv s)))).setCell ⟨Bh, 0, none⟩ (.int .i64 (mx H (zv s)))) ∧ I ys ((W.drew.setCell ⟨Bl, 0, none⟩ (.int .i64 (mn L (zv s)))).setCell ⟨Bh, 0, none⟩ (.int .i64 (mx H (zv s)))) := by
    refine ⟨(((KeepsOthers.drew W).trans (KeepsOthers.setCell _ _ _)).trans (KeepsOthers.setCell _ _ _)).from _, ((kab_drew Ba W).tr (kab_setCell _ _ _ n4 n6)).tr (kab_setCell _ _ _ n5 n7), hJ _ ⟨?_, ?_, ?_, tabAt_setCell T1 _ _, ((hB.drew).setCell (p := ⟨Bl, 0, none⟩) n8 _).setCell (p := ⟨Bh, 0, none⟩) n9 _⟩⟩
    · exact (Boxed.set _ hl').other n1 _
    · exact Boxed.set _ hh1
    · exact (Boxed.other (W := W.drew) ht n2 _).other n3 _
  clear hJ hB hl hh ht hl' hh1
  gi_wp2
  refine wpIn_region_any (by kernel_rfl) (wpAnyIn_inRound (by kernel_rfl) _ _ _ _ ?_)
  change wpAnyIn _ _ _ _ _ _ _ _ _ W.drew
  refine any_capture fun G e => ?_
  refine (e _ _ _ _).mpr (wpAnyIn_take (i := 2) (v := .int .i64 s) rfl rfl (by kernel_rfl) (by kernel_rfl) (by kernel_rfl) (fun _ _ _ h => h) ⟨Or.inl ⟨by rfl, fun w => by go_simp⟩, fun _ => rfl⟩ ?_)
  refine wpAnyIn_take (i := 7) (v := .int .i64 s) rfl rfl (by kernel_rfl) (by kernel_rfl) (by kernel_rfl) (fun _ _ _ h => h) ⟨Or.inl ⟨by rfl, fun w => by go_simp⟩, fun _ => rfl⟩ ?_
  refine (e _ _ _ _).mp ?_
  have s0123456789ab : G 0 #[true, true, true, true, true, true, true, true, true, true, true, true] { tmps := #[v0, v1, v2, v3, v4, v5, v6, .pointer (some ⟨Bt, 0, none⟩), .pointer (some ⟨Bl, 0, none⟩), .pointer (some ⟨Bh, 0, none⟩), .int .i64 s, v11, v12, v13, v14, v15, v16, v17, v18, v19, v20, v21, v22, v23, v24, v25, v26, v27, v28, v29, .int .i64 L, .map (some M), .int .i64 s, .int .i64 (zv s), .int .i64 (mn L (zv s)), .int .i64 H, .map (some M), .int .i64 s, .int .i64 (zv s), .int .i64 (mx H (zv s)), v40, v41], defers := [] } ((W.drew.setCell ⟨Bl, 0, none⟩ (.int .i64 (mn L (zv s)))).setCell ⟨Bh, 0, none⟩ (.int .i64 (mx H (zv s)))) := by
    refine (e _ _ _ _).mpr ?_
    refine wpAnyIn_done (by kernel_rfl) ?_ _
    gi_wp2
    exact hfin
  have s0123456789a : G 1 #[true, true, true, true, true, true, true, true, true, true, true, false] { tmps := #[v0, v1, v2, v3, v4, v5, v6, .pointer (some ⟨Bt, 0, none⟩), .pointer (some ⟨Bl, 0, none⟩), .pointer (some ⟨Bh, 0, none⟩), .int .i64 s, v11, v12, v13, v14, v15, v16, v17, v18, v19, v20, v21, v22, v23, v24, v25, v26, v27, v28, v29, .int .i64 L, .map (some M), .int .i64 s, .int .i64 (zv s), .int .i64 (mn L (zv s)), .int .i64 H, .map (some M), .int .i64 s, .int .i64 (zv s), .int .i64 (mx H (zv s)), v40, v41], defers := [] } (W.drew.setCell ⟨Bl, 0, none⟩ (.int .i64 (mn L (zv s)))) := by
    refine (e _ _ _ _).mpr (wpAnyIn_ready (rs := [11]) (by kernel_rfl) (by simp) ?_)
    refine AllReadyIn.cons rfl (fun K hK => ?_) ?_
    · go_simp
      exact hK _ _ ((e _ _ _ _).mp s0123456789ab)
    exact AllReadyIn.nil
  have s0123456789 : G 2 #[true, true, true, true, true, true, true, true, true, true, false, false] { tmps := #[v0, v1, v2, v3, v4, v5, v6, .pointer (some ⟨Bt, 0, none⟩), .pointer (some ⟨Bl, 0, none⟩), .pointer (some ⟨Bh, 0, none⟩), .int .i64 s, v11, v12, v13, v14, v15, v16, v17, v18, v19, v20, v21, v22, v23, v24, v25, v26, v27, v28, v29, .int .i64 L, .map (some M), .int .i64 s, .int .i64 (zv s), .int .i64 (mn L (zv s)), .int .i64 H, .map (some M), .int .i64 s, .int .i64 (zv s), .int .i64 (mx H (zv s)), v40, v41], defers := [] } W.drew := by
    refine (e _ _ _ _).mpr (wpAnyIn_ready (rs := [10]) (by kernel_rfl) (by simp) ?_)
    refine AllReadyIn.cons rfl (fun K hK => ?_) ?_
    · go_simp
      exact hK _ _ ((e _ _ _ _).mp s0123456789a)
    exact AllReadyIn.nil
  have s012345678a : G 2 #[true, true, true, true, true, true, true, true, true, false, true, false] { tmps := #[v0, v1, v2, v3, v4, v5, v6, .pointer (some ⟨Bt, 0, none⟩), .pointer (some ⟨Bl, 0, none⟩), .pointer (some ⟨Bh, 0, none⟩), .int .i64 s, v11, v12, v13, v14, v15, v16, v17, v18, v19, v20, v21, v22, v23, v24, v25, v26, v27, v28, v29, .int .i64 L, .map (some M), .int .i64 s, .int .i64 (zv s), .int .i64 (mn L (zv s)), .int .i64 H, .map (some M), .int .i64 s, .int .i64 (zv s), v39, v40, v41], defers := [] } (W.drew.setCell ⟨Bl, 0, none⟩ (.int .i64 (mn L (zv s)))) := by
    refine (e _ _ _ _).mpr (wpAnyIn_ready (rs := [9]) (by kernel_rfl) (by simp) ?_)
    refine AllReadyIn.cons rfl (fun K hK => ?_) ?_
    · go_simp
      exact hK _ _ ((e _ _ _ _).mp s0123456789a)
    exact AllReadyIn.nil
  have s012345678 : G 3 #[true, true, true, true, true, true, true, true, true, false, false, false] { tmps := #[v0, v1, v2, v3, v4, v5, v6, .pointer (some ⟨Bt, 0, none⟩), .pointer (some ⟨Bl, 0, none⟩), .pointer (some ⟨Bh, 0, none⟩), .int .i64 s, v11, v12, v13, v14, v15, v16, v17, v18, v19, v20, v21, v22, v23, v24, v25, v26, v27, v28, v29, .int .i64 L, .map (some M), .int .i64 s, .int .i64 (zv s), .int .i64 (mn L (zv s)), .int .i64 H, .map (some M), .int .i64 s, .int .i64 (zv s), v39, v40, v41], defers := [] } W.drew := by
    refine (e _ _ _ _).mpr (wpAnyIn_ready (rs := [9, 10]) (by kernel_rfl) (by simp) ?_)
    refine AllReadyIn.cons rfl (fun K hK => ?_) ?_
    · go_simp
      exact hK _ _ ((e _ _ _ _).mp s0123456789)
    refine AllReadyIn.cons rfl (fun K hK => ?_) ?_
    · go_simp
      exact hK _ _ ((e _ _ _ _).mp s012345678a)
    exact AllReadyIn.nil
  have s01234567a : G 3 #[true, true, true, true, true, true, true, true, false, false, true, false] { tmps := #[v0, v1, v2, v3, v4, v5, v6, .pointer (some ⟨Bt, 0, none⟩), .pointer (some ⟨Bl, 0, none⟩), .pointer (some ⟨Bh, 0, none⟩), .int .i64 s, v11, v12, v13, v14, v15, v16, v17, v18, v19, v20, v21, v22, v23, v24, v25, v26, v27, v28, v29, .int .i64 L, .map (some M), .int .i64 s, .int .i64 (zv s), .int .i64 (mn L (zv s)), .int .i64 H, .map (some M), .int .i64 s, v38, v39, v40, v41], defers := [] } (W.drew.setCell ⟨Bl, 0, none⟩ (.int .i64 (mn L (zv s)))) := by
    refine (e _ _ _ _).mpr (wpAnyIn_ready (rs := [8]) (by kernel_rfl) (by simp) ?_)
    refine AllReadyIn.cons rfl (fun K hK => ?_) ?_
    · go_simp
      exact hK _ _ ((e _ _ _ _).mp s012345678a)
    exact AllReadyIn.nil
  have s01234567 : G 4 #[true, true, true, true, true, true, true, true, false, false, false, false] { tmps := #[v0, v1, v2, v3, v4, v5, v6, .pointer (some ⟨Bt, 0, none⟩), .pointer (some ⟨Bl, 0, none⟩), .pointer (some ⟨Bh, 0, none⟩), .int .i64 s, v11, v12, v13, v14, v15, v16, v17, v18, v19, v20, v21, v22, v23, v24, v25, v26, v27, v28, v29, .int .i64 L, .map (some M), .int .i64 s, .int .i64 (zv s), .int .i64 (mn L (zv s)), .int .i64 H, .map (some M), .int .i64 s, v38, v39, v40, v41], defers := [] } W.drew := by
    refine (e _ _ _ _).mpr (wpAnyIn_ready (rs := [8, 10]) (by kernel_rfl) (by simp) ?_)
    refine AllReadyIn.cons rfl (fun K hK => ?_) ?_
    · go_simp
      exact hK _ _ ((e _ _ _ _).mp s012345678)
    refine AllReadyIn.cons rfl (fun K hK => ?_) ?_
    · go_simp
      exact hK _ _ ((e _ _ _ _).mp s01234567a)
    exact AllReadyIn.nil
  have s0123457a : G 4 #[true, true, true, true, true, true, false, true, false, false, true, false] { tmps := #[v0, v1, v2, v3, v4, v5, v6, .pointer (some ⟨Bt, 0, none⟩), .pointer (some ⟨Bl, 0, none⟩), .pointer (some ⟨Bh, 0, none⟩), .int .i64 s, v11, v12, v13, v14, v15, v16, v17, v18, v19, v20, v21, v22, v23, v24, v25, v26, v27, v28, v29, .int .i64 L, .map (some M), .int .i64 s, .int .i64 (zv s), .int .i64 (mn L (zv s)), .int .i64 H, v36, .int .i64 s, v38, v39, v40, v41], defers := [] } (W.drew.setCell ⟨Bl, 0, none⟩ (.int .i64 (mn L (zv s)))) := by
    refine (e _ _ _ _).mpr (wpAnyIn_ready (rs := [6]) (by kernel_rfl) (by simp) ?_)
    refine AllReadyIn.cons rfl (fun K hK => ?_) ?_
    · go_simp
      exact hK _ _ ((e _ _ _ _).mp s01234567a)
    exact AllReadyIn.nil
  have s0123457 : G 5 #[true, true, true, true, true, true, false, true, false, false, false, false] { tmps := #[v0, v1, v2, v3, v4, v5, v6, .pointer (some ⟨Bt, 0, none⟩), .pointer (some ⟨Bl, 0, none⟩), .pointer (some ⟨Bh, 0, none⟩), .int .i64 s, v11, v12, v13, v14, v15, v16, v17, v18, v19, v20, v21, v22, v23, v24, v25, v26, v27, v28, v29, .int .i64 L, .map (some M), .int .i64 s, .int .i64 (zv s), .int .i64 (mn L (zv s)), .int .i64 H, v36, .int .i64 s, v38, v39, v40, v41], defers := [] } W.drew := by
    refine (e _ _ _ _).mpr (wpAnyIn_ready (rs := [6, 10]) (by kernel_rfl) (by simp) ?_)
    refine AllReadyIn.cons rfl (fun K hK => ?_) ?_
    · go_simp
      exact hK _ _ ((e _ _ _ _).mp s01234567)
    refine AllReadyIn.cons rfl (fun K hK => ?_) ?_
    · go_simp
      exact hK _ _ ((e _ _ _ _).mp s0123457a)
    exact AllReadyIn.nil
  have s01234678a : G 3 #[true, true, true, true, true, false, true, true, true, false, true, false] { tmps := #[v0, v1, v2, v3, v4, v5, v6, .pointer (some ⟨Bt, 0, none⟩), .pointer (some ⟨Bl, 0, none⟩), .pointer (some ⟨Bh, 0, none⟩), .int .i64 s, v11, v12, v13, v14, v15, v16, v17, v18, v19, v20, v21, v22, v23, v24, v25, v26, v27, v28, v29, .int .i64 L, .map (some M), .int .i64 s, .int .i64 (zv s), .int .i64 (mn L (zv s)), v35, .map (some M), .int .i64 s, .int .i64 (zv s), v39, v40, v41], defers := [] } (W.drew.setCell ⟨Bl, 0, none⟩ (.int .i64 (mn L (zv s)))) := by
    refine (e _ _ _ _).mpr (wpAnyIn_ready (rs := [5]) (by kernel_rfl) (by simp) ?_)
    refine AllReadyIn.cons rfl (fun K hK => ?_) ?_
    · go_simp
      exact hK _ _ ((e _ _ _ _).mp s012345678a)
    exact AllReadyIn.nil
  have s01234678 : G 4 #[true, true, true, true, true, false, true, true, true, false, false, false] { tmps := #[v0, v1, v2, v3, v4, v5, v6, .pointer (some ⟨Bt, 0, none⟩), .pointer (some ⟨Bl, 0, none⟩), .pointer (some ⟨Bh, 0, none⟩), .int .i64 s, v11, v12, v13, v14, v15, v16, v17, v18, v19, v20, v21, v22, v23, v24, v25, v26, v27, v28, v29, .int .i64 L, .map (some M), .int .i64 s, .int .i64 (zv s), .int .i64 (mn L (zv s)), v35, .map (some M), .int .i64 s, .int .i64 (zv s), v39, v40, v41], defers := [] } W.drew := by
    refine (e _ _ _ _).mpr (wpAnyIn_ready (rs := [5, 10]) (by kernel_rfl) (by simp) ?_)
    refine AllReadyIn.cons rfl (fun K hK => ?_) ?_
    · go_simp
      exact hK _ _ ((e _ _ _ _).mp s012345678)
    refine AllReadyIn.cons rfl (fun K hK => ?_) ?_
    · go_simp
      exact hK _ _ ((e _ _ _ _).mp s01234678a)
    exact AllReadyIn.nil
  have s0123467a : G 4 #[true, true, true, true, true, false, true, true, false, false, true, false] { tmps := #[v0, v1, v2, v3, v4, v5, v6, .pointer (some ⟨Bt, 0, none⟩), .pointer (some ⟨Bl, 0, none⟩), .pointer (some ⟨Bh, 0, none⟩), .int .i64 s, v11, v12, v13, v14, v15, v16, v17, v18, v19, v20, v21, v22, v23, v24, v25, v26, v27, v28, v29, .int .i64 L, .map (some M), .int .i64 s, .int .i64 (zv s), .int .i64 (mn L (zv s)), v35, .map (some M), .int .i64 s, v38, v39, v40, v41], defers := [] } (W.drew.setCell ⟨Bl, 0, none⟩ (.int .i64 (mn L (zv s)))) := by
    refine (e _ _ _ _).mpr (wpAnyIn_ready (rs := [5, 8]) (by kernel_rfl) (by simp) ?_)
    refine AllReadyIn.cons rfl (fun K hK => ?_) ?_
    · go_simp
      exact hK _ _ ((e _ _ _ _).mp s01234567a)
    refine AllReadyIn.cons rfl (fun K hK => ?_) ?_
    · go_simp
      exact hK _ _ ((e _ _ _ _).mp s01234678a)
    exact AllReadyIn.nil
  have s0123467 : G 5 #[true, true, true, true, true, false, true, true, false, false, false, false] { tmps := #[v0, v1, v2, v3, v4, v5, v6, .pointer (some ⟨Bt, 0, none⟩), .pointer (some ⟨Bl, 0, none⟩), .pointer (some ⟨Bh, 0, none⟩), .int .i64 s, v11, v12, v13, v14, v15, v16, v17, v18, v19, v20, v21, v22, v23, v24, v25, v26, v27, v28, v29, .int .i64 L, .map (some M), .int .i64 s, .int .i64 (zv s), .int .i64 (mn L (zv s)), v35, .map (some M), .int .i64 s, v38, v39, v40, v41], defers := [] } W.drew := by
    refine (e _ _ _ _).mpr (wpAnyIn_ready (rs := [5, 8, 10]) (by kernel_rfl) (by simp) ?_)
    refine AllReadyIn.cons rfl (fun K hK => ?_) ?_
    · go_simp
      exact hK _ _ ((e _ _ _ _).mp s01234567)
    refine AllReadyIn.cons rfl (fun K hK => ?_) ?_
    · go_simp
      exact hK _ _ ((e _ _ _ _).mp s01234678)
    refine AllReadyIn.cons rfl (fun K hK => ?_) ?_
    · go_simp
      exact hK _ _ ((e _ _ _ _).mp s0123467a)
    exact AllReadyIn.nil
  have s012347a : G 5 #[true, true, true, true, true, false, false, true, false, false, true, false] { tmps := #[v0, v1, v2, v3, v4, v5, v6, .pointer (some ⟨Bt, 0, none⟩), .pointer (some ⟨Bl, 0, none⟩), .pointer (some ⟨Bh, 0, none⟩), .int .i64 s, v11, v12, v13, v14, v15, v16, v17, v18, v19, v20, v21, v22, v23, v24, v25, v26, v27, v28, v29, .int .i64 L, .map (some M), .int .i64 s, .int .i64 (zv s), .int .i64 (mn L (zv s)), v35, v36, .int .i64 s, v38, v39, v40, v41], defers := [] } (W.drew.setCell ⟨Bl, 0, none⟩ (.int .i64 (mn L (zv s)))) := by
    refine (e _ _ _ _).mpr (wpAnyIn_ready (rs := [5, 6]) (by kernel_rfl) (by simp) ?_)
    refine AllReadyIn.cons rfl (fun K hK => ?_) ?_
    · go_simp
      exact hK _ _ ((e _ _ _ _).mp s0123457a)
    refine AllReadyIn.cons rfl (fun K hK => ?_) ?_
    · go_simp
      exact hK _ _ ((e _ _ _ _).mp s0123467a)
    exact AllReadyIn.nil
  have s012347 : G 6 #[true, true, true, true, true, false, false, true, false, false, false, false] { tmps := #[v0, v1, v2, v3, v4, v5, v6, .pointer (some ⟨Bt, 0, none⟩), .pointer (some ⟨Bl, 0, none⟩), .pointer (some ⟨Bh, 0, none⟩), .int .i64 s, v11, v12, v13, v14, v15, v16, v17, v18, v19, v20, v21, v22, v23, v24, v25, v26, v27, v28, v29, .int .i64 L, .map (some M), .int .i64 s, .int .i64 (zv s), .int .i64 (mn L (zv s)), v35, v36, .int .i64 s, v38, v39, v40, v41], defers := [] } W.drew := by
    refine (e _ _ _ _).mpr (wpAnyIn_ready (rs := [5, 6, 10]) (by kernel_rfl) (by simp) ?_)
    refine AllReadyIn.cons rfl (fun K hK => ?_) ?_
    · go_simp
      exact hK _ _ ((e _ _ _ _).mp s0123457)
    refine AllReadyIn.cons rfl (fun K hK => ?_) ?_
    · go_simp
      exact hK _ _ ((e _ _ _ _).mp s0123467)
    refine AllReadyIn.cons rfl (fun K hK => ?_) ?_
    · go_simp
      exact hK _ _ ((e _ _ _ _).mp s012347a)
    exact AllReadyIn.nil
  have s012356789 : G 3 #[true, true, true, true, false, true, true, true, true, true, false, false] { tmps := #[v0, v1, v2, v3, v4, v5, v6, .pointer (some ⟨Bt, 0, none⟩), .pointer (some ⟨Bl, 0, none⟩), .pointer (some ⟨Bh, 0, none⟩), .int .i64 s, v11, v12, v13, v14, v15, v16, v17, v18, v19, v20, v21, v22, v23, v24, v25, v26, v27, v28, v29, .int .i64 L, .map (some M), .int .i64 s, .int .i64 (zv s), v34, .int .i64 H, .map (some M), .int .i64 s, .int .i64 (zv s), .int .i64 (mx H (zv s)), v40, v41], defers := [] } W.drew := by
    refine (e _ _ _ _).mpr (wpAnyIn_ready (rs := [4]) (by kernel_rfl) (by simp) ?_)
    refine AllReadyIn.cons rfl (fun K hK => ?_) ?_
    · go_simp
      exact hK _ _ ((e _ _ _ _).mp s0123456789)
    exact AllReadyIn.nil
  have s01235678 : G 4 #[true, true, true, true, false, true, true, true, true, false, false, false] { tmps := #[v0, v1, v2, v3, v4, v5, v6, .pointer (some ⟨Bt, 0, none⟩), .pointer (some ⟨Bl, 0, none⟩), .pointer (some ⟨Bh, 0, none⟩), .int .i64 s, v11, v12, v13, v14, v15, v16, v17, v18, v19, v20, v21, v22, v23, v24, v25, v26, v27, v28, v29, .int .i64 L, .map (some M), .int .i64 s, .int .i64 (zv s), v34, .int .i64 H, .map (some M), .int .i64 s, .int .i64 (zv s), v39, v40, v41], defers := [] } W.drew := by
    refine (e _ _ _ _).mpr (wpAnyIn_ready (rs := [4, 9]) (by kernel_rfl) (by simp) ?_)
    refine AllReadyIn.cons rfl (fun K hK => ?_) ?_
    · go_simp
      exact hK _ _ ((e _ _ _ _).mp s012345678)
    refine AllReadyIn.cons rfl (fun K hK => ?_) ?_
    · go_simp
      exact hK _ _ ((e _ _ _ _).mp s012356789)
    exact AllReadyIn.nil
  have s0123567 : G 5 #[true, true, true, true, false, true, true, true, false, false, false, false] { tmps := #[v0, v1, v2, v3, v4, v5, v6, .pointer (some ⟨Bt, 0, none⟩), .pointer (some ⟨Bl, 0, none⟩), .pointer (some ⟨Bh, 0, none⟩), .int .i64 s, v11, v12, v13, v14, v15, v16, v17, v18, v19, v20, v21, v22, v23, v24, v25, v26, v27, v28, v29, .int .i64 L, .map (some M), .int .i64 s, .int .i64 (zv s), v34, .int .i64 H, .map (some M), .int .i64 s, v38, v39, v40, v41], defers := [] } W.drew := by
    refine (e _ _ _ _).mpr (wpAnyIn_ready (rs := [4, 8]) (by kernel_rfl) (by simp) ?_)
    refine AllReadyIn.cons rfl (fun K hK => ?_) ?_
    · go_simp
      exact hK _ _ ((e _ _ _ _).mp s01234567)
    refine AllReadyIn.cons rfl (fun K hK => ?_) ?_
    · go_simp
      exact hK _ _ ((e _ _ _ _).mp s01235678)
    exact AllReadyIn.nil
  have s012357 : G 6 #[true, true, true, true, false, true, false, true, false, false, false, false] { tmps := #[v0, v1, v2, v3, v4, v5, v6, .pointer (some ⟨Bt, 0, none⟩), .pointer (some ⟨Bl, 0, none⟩), .pointer (some ⟨Bh, 0, none⟩), .int .i64 s, v11, v12, v13, v14, v15, v16, v17, v18, v19, v20, v21, v22, v23, v24, v25, v26, v27, v28, v29, .int .i64 L, .map (some M), .int .i64 s, .int .i64 (zv s), v34, .int .i64 H, v36, .int .i64 s, v38, v39, v40, v41], defers := [] } W.drew := by
    refine (e _ _ _ _).mpr (wpAnyIn_ready (rs := [4, 6]) (by kernel_rfl) (by simp) ?_)
    refine AllReadyIn.cons rfl (fun K hK => ?_) ?_
    · go_simp
      exact hK _ _ ((e _ _ _ _).mp s0123457)
    refine AllReadyIn.cons rfl (fun K hK => ?_) ?_
    · go_simp
      exact hK _ _ ((e _ _ _ _).mp s0123567)
    exact AllReadyIn.nil
  have s0123678 : G 5 #[true, true, true, true, false, false, true, true, true, false, false, false] { tmps := #[v0, v1, v2, v3, v4, v5, v6, .pointer (some ⟨Bt, 0, none⟩), .pointer (some ⟨Bl, 0, none⟩), .pointer (some ⟨Bh, 0, none⟩), .int .i64 s, v11, v12, v13, v14, v15, v16, v17, v18, v19, v20, v21, v22, v23, v24, v25, v26, v27, v28, v29, .int .i64 L, .map (some M), .int .i64 s, .int .i64 (zv s), v34, v35, .map (some M), .int .i64 s, .int .i64 (zv s), v39, v40, v41], defers := [] } W.drew := by
    refine (e _ _ _ _).mpr (wpAnyIn_ready (rs := [4, 5]) (by kernel_rfl) (by simp) ?_)
    refine AllReadyIn.cons rfl (fun K hK => ?_) ?_
    · go_simp
      exact hK _ _ ((e _ _ _ _).mp s01234678)
    refine AllReadyIn.cons rfl (fun K hK => ?_) ?_
    · go_simp
      exact hK _ _ ((e _ _ _ _).mp s01235678)
    exact AllReadyIn.nil
  have s012367 : G 6 #[true, true, true, true, false, false, true, true, false, false, false, false] { tmps := #[v0, v1, v2, v3, v4, v5, v6, .pointer (some ⟨Bt, 0, none⟩), .pointer (some ⟨Bl, 0, none⟩), .pointer (some ⟨Bh, 0, none⟩), .int .i64 s, v11, v12, v13, v14, v15, v16, v17, v18, v19, v20, v21, v22, v23, v24, v25, v26, v27, v28, v29, .int .i64 L, .map (some M), .int .i64 s, .int .i64 (zv s), v34, v35, .map (some M), .int .i64 s, v38, v39, v40, v41], defers := [] } W.drew := by
    refine (e _ _ _ _).mpr (wpAnyIn_ready (rs := [4, 5, 8]) (by kernel_rfl) (by simp) ?_)
    refine AllReadyIn.cons rfl (fun K hK => ?_) ?_
    · go_simp
      exact hK _ _ ((e _ _ _ _).mp s0123467)
    refine AllReadyIn.cons rfl (fun K hK => ?_) ?_
    · go_simp
      exact hK _ _ ((e _ _ _ _).mp s0123567)
    refine AllReadyIn.cons rfl (fun K hK => ?_) ?_
    · go_simp
      exact hK _ _ ((e _ _ _ _).mp s0123678)
    exact AllReadyIn.nil
  have s01237 : G 7 #[true, true, true, true, false, false, false, true, false, false, false, false] { tmps := #[v0, v1, v2, v3, v4, v5, v6, .pointer (some ⟨Bt, 0, none⟩), .pointer (some ⟨Bl, 0, none⟩), .pointer (some ⟨Bh, 0, none⟩), .int .i64 s, v11, v12, v13, v14, v15, v16, v17, v18, v19, v20, v21, v22, v23, v24, v25, v26, v27, v28, v29, .int .i64 L, .map (some M), .int .i64 s, .int .i64 (zv s), v34, v35, v36, .int .i64 s, v38, v39, v40, v41], defers := [] } W.drew := by
    refine (e _ _ _ _).mpr (wpAnyIn_ready (rs := [4, 5, 6]) (by kernel_rfl) (by simp) ?_)
    refine AllReadyIn.cons rfl (fun K hK => ?_) ?_
    · go_simp
      exact hK _ _ ((e _ _ _ _).mp s012347)
    refine AllReadyIn.cons rfl (fun K hK => ?_) ?_
    · go_simp
      exact hK _ _ ((e _ _ _ _).mp s012357)
    refine AllReadyIn.cons rfl (fun K hK => ?_) ?_
    · go_simp
      exact hK _ _ ((e _ _ _ _).mp s012367)
    exact AllReadyIn.nil
  have s01256789 : G 4 #[true, true, true, false, false, true, true, true, true, true, false, false] { tmps := #[v0, v1, v2, v3, v4, v5, v6, .pointer (some ⟨Bt, 0, none⟩), .pointer (some ⟨Bl, 0, none⟩), .pointer (some ⟨Bh, 0, none⟩), .int .i64 s, v11, v12, v13, v14, v15, v16, v17, v18, v19, v20, v21, v22, v23, v24, v25, v26, v27, v28, v29, .int .i64 L, .map (some M), .int .i64 s, v33, v34, .int .i64 H, .map (some M), .int .i64 s, .int .i64 (zv s), .int .i64 (mx H (zv s)), v40, v41], defers := [] } W.drew := by
    refine (e _ _ _ _).mpr (wpAnyIn_ready (rs := [3]) (by kernel_rfl) (by simp) ?_)
    refine AllReadyIn.cons rfl (fun K hK => ?_) ?_
    · go_simp
      exact hK _ _ ((e _ _ _ _).mp s012356789)
    exact AllReadyIn.nil
  have s0125678 : G 5 #[true, true, true, false, false, true, true, true, true, false, false, false] { tmps := #[v0, v1, v2, v3, v4, v5, v6, .pointer (some ⟨Bt, 0, none⟩), .pointer (some ⟨Bl, 0, none⟩), .pointer (some ⟨Bh, 0, none⟩), .int .i64 s, v11, v12, v13, v14, v15, v16, v17, v18, v19, v20, v21, v22, v23, v24, v25, v26, v27, v28, v29, .int .i64 L, .map (some M), .int .i64 s, v33, v34, .int .i64 H, .map (some M), .int .i64 s, .int .i64 (zv s), v39, v40, v41], defers := [] } W.drew := by
    refine (e _ _ _ _).mpr (wpAnyIn_ready (rs := [3, 9]) (by kernel_rfl) (by simp) ?_)
    refine AllReadyIn.cons rfl (fun K hK => ?_) ?_
    · go_simp
      exact hK _ _ ((e _ _ _ _).mp s01235678)
    refine AllReadyIn.cons rfl (fun K hK => ?_) ?_
    · go_simp
      exact hK _ _ ((e _ _ _ _).mp s01256789)
    exact AllReadyIn.nil
  have s012567 : G 6 #[true, true, true, false, false, true, true, true, false, false, false, false] { tmps := #[v0, v1, v2, v3, v4, v5, v6, .pointer (some ⟨Bt, 0, none⟩), .pointer (some ⟨Bl, 0, none⟩), .pointer (some ⟨Bh, 0, none⟩), .int .i64 s, v11, v12, v13, v14, v15, v16, v17, v18, v19, v20, v21, v22, v23, v24, v25, v26, v27, v28, v29, .int .i64 L, .map (some M), .int .i64 s, v33, v34, .int .i64 H, .map (some M), .int .i64 s, v38, v39, v40, v41], defers := [] } W.drew := by
    refine (e _ _ _ _).mpr (wpAnyIn_ready (rs := [3, 8]) (by kernel_rfl) (by simp) ?_)
    refine AllReadyIn.cons rfl (fun K hK => ?_) ?_
    · go_simp
      exact hK _ _ ((e _ _ _ _).mp s0123567)
    refine AllReadyIn.cons rfl (fun K hK => ?_) ?_
    · go_simp
      exact hK _ _ ((e _ _ _ _).mp s0125678)
    exact AllReadyIn.nil
  have s01257 : G 7 #[true, true, true, false, false, true, false, true, false, false, false, false] { tmps := #[v0, v1, v2, v3, v4, v5, v6, .pointer (some ⟨Bt, 0, none⟩), .pointer (some ⟨Bl, 0, none⟩), .pointer (some ⟨Bh, 0, none⟩), .int .i64 s, v11, v12, v13, v14, v15, v16, v17, v18, v19, v20, v21, v22, v23, v24, v25, v26, v27, v28, v29, .int .i64 L, .map (some M), .int .i64 s, v33, v34, .int .i64 H, v36, .int .i64 s, v38, v39, v40, v41], defers := [] } W.drew := by
    refine (e _ _ _ _).mpr (wpAnyIn_ready (rs := [3, 6]) (by kernel_rfl) (by simp) ?_)
    refine AllReadyIn.cons rfl (fun K hK => ?_) ?_
    · go_simp
      exact hK _ _ ((e _ _ _ _).mp s012357)
    refine AllReadyIn.cons rfl (fun K hK => ?_) ?_
    · go_simp
      exact hK _ _ ((e _ _ _ _).mp s012567)
    exact AllReadyIn.nil
  have s012678 : G 6 #[true, true, true, false, false, false, true, true, true, false, false, false] { tmps := #[v0, v1, v2, v3, v4, v5, v6, .pointer (some ⟨Bt, 0, none⟩), .pointer (some ⟨Bl, 0, none⟩), .pointer (some ⟨Bh, 0, none⟩), .int .i64 s, v11, v12, v13, v14, v15, v16, v17, v18, v19, v20, v21, v22, v23, v24, v25, v26, v27, v28, v29, .int .i64 L, .map (some M), .int .i64 s, v33, v34, v35, .map (some M), .int .i64 s, .int .i64 (zv s), v39, v40, v41], defers := [] } W.drew := by
    refine (e _ _ _ _).mpr (wpAnyIn_ready (rs := [3, 5]) (by kernel_rfl) (by simp) ?_)
    refine AllReadyIn.cons rfl (fun K hK => ?_) ?_
    · go_simp
      exact hK _ _ ((e _ _ _ _).mp s0123678)
    refine AllReadyIn.cons rfl (fun K hK => ?_) ?_
    · go_simp
      exact hK _ _ ((e _ _ _ _).mp s0125678)
    exact AllReadyIn.nil
  have s01267 : G 7 #[true, true, true, false, false, false, true, true, false, false, false, false] { tmps := #[v0, v1, v2, v3, v4, v5, v6, .pointer (some ⟨Bt, 0, none⟩), .pointer (some ⟨Bl, 0, none⟩), .pointer (some ⟨Bh, 0, none⟩), .int .i64 s, v11, v12, v13, v14, v15, v16, v17, v18, v19, v20, v21, v22, v23, v24, v25, v26, v27, v28, v29, .int .i64 L, .map (some M), .int .i64 s, v33, v34, v35, .map (some M), .int .i64 s, v38, v39, v40, v41], defers := [] } W.drew := by
    refine (e _ _ _ _).mpr (wpAnyIn_ready (rs := [3, 5, 8]) (by kernel_rfl) (by simp) ?_)
    refine AllReadyIn.cons rfl (fun K hK => ?_) ?_
    · go_simp
      exact hK _ _ ((e _ _ _ _).mp s012367)
    refine AllReadyIn.cons rfl (fun K hK => ?_) ?_
    · go_simp
      exact hK _ _ ((e _ _ _ _).mp s012567)
    refine AllReadyIn.cons rfl (fun K hK => ?_) ?_
    · go_simp
      exact hK _ _ ((e _ _ _ _).mp s012678)
    exact AllReadyIn.nil
  have s0127 : G 8 #[true, true, true, false, false, false, false, true, false, false, false, false] { tmps := #[v0, v1, v2, v3, v4, v5, v6, .pointer (some ⟨Bt, 0, none⟩), .pointer (some ⟨Bl, 0, none⟩), .pointer (some ⟨Bh, 0, none⟩), .int .i64 s, v11, v12, v13, v14, v15, v16, v17, v18, v19, v20, v21, v22, v23, v24, v25, v26, v27, v28, v29, .int .i64 L, .map (some M), .int .i64 s, v33, v34, v35, v36, .int .i64 s, v38, v39, v40, v41], defers := [] } W.drew := by
    refine (e _ _ _ _).mpr (wpAnyIn_ready (rs := [3, 5, 6]) (by kernel_rfl) (by simp) ?_)
    refine AllReadyIn.cons rfl (fun K hK => ?_) ?_
    · go_simp
      exact hK _ _ ((e _ _ _ _).mp s01237)
    refine AllReadyIn.cons rfl (fun K hK => ?_) ?_
    · go_simp
      exact hK _ _ ((e _ _ _ _).mp s01257)
    refine AllReadyIn.cons rfl (fun K hK => ?_) ?_
    · go_simp
      exact hK _ _ ((e _ _ _ _).mp s01267)
    exact AllReadyIn.nil
  have s0256789 : G 5 #[true, false, true, false, false, true, true, true, true, true, false, false] { tmps := #[v0, v1, v2, v3, v4, v5, v6, .pointer (some ⟨Bt, 0, none⟩), .pointer (some ⟨Bl, 0, none⟩), .pointer (some ⟨Bh, 0, none⟩), .int .i64 s, v11, v12, v13, v14, v15, v16, v17, v18, v19, v20, v21, v22, v23, v24, v25, v26, v27, v28, v29, .int .i64 L, v31, .int .i64 s, v33, v34, .int .i64 H, .map (some M), .int .i64 s, .int .i64 (zv s), .int .i64 (mx H (zv s)), v40, v41], defers := [] } W.drew := by
    refine (e _ _ _ _).mpr (wpAnyIn_ready (rs := [1]) (by kernel_rfl) (by simp) ?_)
    refine AllReadyIn.cons rfl (fun K hK => ?_) ?_
    · go_simp
      exact hK _ _ ((e _ _ _ _).mp s01256789)
    exact AllReadyIn.nil
  have s025678 : G 6 #[true, false, true, false, false, true, true, true, true, false, false, false] { tmps := #[v0, v1, v2, v3, v4, v5, v6, .pointer (some ⟨Bt, 0, none⟩), .pointer (some ⟨Bl, 0, none⟩), .pointer (some ⟨Bh, 0, none⟩), .int .i64 s, v11, v12, v13, v14, v15, v16, v17, v18, v19, v20, v21, v22, v23, v24, v25, v26, v27, v28, v29, .int .i64 L, v31, .int .i64 s, v33, v34, .int .i64 H, .map (some M), .int .i64 s, .int .i64 (zv s), v39, v40, v41], defers := [] } W.drew := by
    refine (e _ _ _ _).mpr (wpAnyIn_ready (rs := [1, 9]) (by kernel_rfl) (by simp) ?_)
    refine AllReadyIn.cons rfl (fun K hK => ?_) ?_
    · go_simp
      exact hK _ _ ((e _ _ _ _).mp s0125678)
    refine AllReadyIn.cons rfl (fun K hK => ?_) ?_
    · go_simp
      exact hK _ _ ((e _ _ _ _).mp s0256789)
    exact AllReadyIn.nil
  have s02567 : G 7 #[true, false, true, false, false, true, true, true, false, false, false, false] { tmps := #[v0, v1, v2, v3, v4, v5, v6, .pointer (some ⟨Bt, 0, none⟩), .pointer (some ⟨Bl, 0, none⟩), .pointer (some ⟨Bh, 0, none⟩), .int .i64 s, v11, v12, v13, v14, v15, v16, v17, v18, v19, v20, v21, v22, v23, v24, v25, v26, v27, v28, v29, .int .i64 L, v31, .int .i64 s, v33, v34, .int .i64 H, .map (some M), .int .i64 s, v38, v39, v40, v41], defers := [] } W.drew := by
    refine (e _ _ _ _).mpr (wpAnyIn_ready (rs := [1, 8]) (by kernel_rfl) (by simp) ?_)
    refine AllReadyIn.cons rfl (fun K hK => ?_) ?_
    · go_simp
      exact hK _ _ ((e _ _ _ _).mp s012567)
    refine AllReadyIn.cons rfl (fun K hK => ?_) ?_
    · go_simp
      exact hK _ _ ((e _ _ _ _).mp s025678)
    exact AllReadyIn.nil
  have s0257 : G 8 #[true, false, true, false, false, true, false, true, false, false, false, false] { tmps := #[v0, v1, v2, v3, v4, v5, v6, .pointer (some ⟨Bt, 0, none⟩), .pointer (some ⟨Bl, 0, none⟩), .pointer (some ⟨Bh, 0, none⟩), .int .i64 s, v11, v12, v13, v14, v15, v16, v17, v18, v19, v20, v21, v22, v23, v24, v25, v26, v27, v28, v29, .int .i64 L, v31, .int .i64 s, v33, v34, .int .i64 H, v36, .int .i64 s, v38, v39, v40, v41], defers := [] } W.drew := by
    refine (e _ _ _ _).mpr (wpAnyIn_ready (rs := [1, 6]) (by kernel_rfl) (by simp) ?_)
    refine AllReadyIn.cons rfl (fun K hK => ?_) ?_
    · go_simp
      exact hK _ _ ((e _ _ _ _).mp s01257)
    refine AllReadyIn.cons rfl (fun K hK => ?_) ?_
    · go_simp
      exact hK _ _ ((e _ _ _ _).mp s02567)
    exact AllReadyIn.nil
  have s02678 : G 7 #[true, false, true, false, false, false, true, true, true, false, false, false] { tmps := #[v0, v1, v2, v3, v4, v5, v6, .pointer (some ⟨Bt, 0, none⟩), .pointer (some ⟨Bl, 0, none⟩), .pointer (some ⟨Bh, 0, none⟩), .int .i64 s, v11, v12, v13, v14, v15, v16, v17, v18, v19, v20, v21, v22, v23, v24, v25, v26, v27, v28, v29, .int .i64 L, v31, .int .i64 s, v33, v34, v35, .map (some M), .int .i64 s, .int .i64 (zv s), v39, v40, v41], defers := [] } W.drew := by
    refine (e _ _ _ _).mpr (wpAnyIn_ready (rs := [1, 5]) (by kernel_rfl) (by simp) ?_)
    refine AllReadyIn.cons rfl (fun K hK => ?_) ?_
    · go_simp
      exact hK _ _ ((e _ _ _ _).mp s012678)
    refine AllReadyIn.cons rfl (fun K hK => ?_) ?_
    · go_simp
      exact hK _ _ ((e _ _ _ _).mp s025678)
    exact AllReadyIn.nil
  have s0267 : G 8 #[true, false, true, false, false, false, true, true, false, false, false, false] { tmps := #[v0, v1, v2, v3, v4, v5, v6, .pointer (some ⟨Bt, 0, none⟩), .pointer (some ⟨Bl, 0, none⟩), .pointer (some ⟨Bh, 0, none⟩), .int .i64 s, v11, v12, v13, v14, v15, v16, v17, v18, v19, v20, v21, v22, v23, v24, v25, v26, v27, v28, v29, .int .i64 L, v31, .int .i64 s, v33, v34, v35, .map (some M), .int .i64 s, v38, v39, v40, v41], defers := [] } W.drew := by
    refine (e _ _ _ _).mpr (wpAnyIn_ready (rs := [1, 5, 8]) (by kernel_rfl) (by simp) ?_)
    refine AllReadyIn.cons rfl (fun K hK => ?_) ?_
    · go_simp
      exact hK _ _ ((e _ _ _ _).mp s01267)
    refine AllReadyIn.cons rfl (fun K hK => ?_) ?_
    · go_simp
      exact hK _ _ ((e _ _ _ _).mp s02567)
    refine AllReadyIn.cons rfl (fun K hK => ?_) ?_
    · go_simp
      exact hK _ _ ((e _ _ _ _).mp s02678)
    exact AllReadyIn.nil
  have s027 : G 9 #[true, false, true, false, false, false, false, true, false, false, false, false] { tmps := #[v0, v1, v2, v3, v4, v5, v6, .pointer (some ⟨Bt, 0, none⟩), .pointer (some ⟨Bl, 0, none⟩), .pointer (some ⟨Bh, 0, none⟩), .int .i64 s, v11, v12, v13, v14, v15, v16, v17, v18, v19, v20, v21, v22, v23, v24, v25, v26, v27, v28, v29, .int .i64 L, v31, .int .i64 s, v33, v34, v35, v36, .int .i64 s, v38, v39, v40, v41], defers := [] } W.drew := by
    refine (e _ _ _ _).mpr (wpAnyIn_ready (rs := [1, 5, 6]) (by kernel_rfl) (by simp) ?_)
    refine AllReadyIn.cons rfl (fun K hK => ?_) ?_
    · go_simp
      exact hK _ _ ((e _ _ _ _).mp s0127)
    refine AllReadyIn.cons rfl (fun K hK => ?_) ?_
    · go_simp
      exact hK _ _ ((e _ _ _ _).mp s0257)
    refine AllReadyIn.cons rfl (fun K hK => ?_) ?_
    · go_simp
      exact hK _ _ ((e _ _ _ _).mp s0267)
    exact AllReadyIn.nil
  have s12356789 : G 4 #[false, true, true, true, false, true, true, true, true, true, false, false] { tmps := #[v0, v1, v2, v3, v4, v5, v6, .pointer (some ⟨Bt, 0, none⟩), .pointer (some ⟨Bl, 0, none⟩), .pointer (some ⟨Bh, 0, none⟩), .int .i64 s, v11, v12, v13, v14, v15, v16, v17, v18, v19, v20, v21, v22, v23, v24, v25, v26, v27, v28, v29, v30, .map (some M), .int .i64 s, .int .i64 (zv s), v34, .int .i64 H, .map (some M), .int .i64 s, .int .i64 (zv s), .int .i64 (mx H (zv s)), v40, v41], defers := [] } W.drew := by
    refine (e _ _ _ _).mpr (wpAnyIn_ready (rs := [0]) (by kernel_rfl) (by simp) ?_)
    refine AllReadyIn.cons rfl (fun K hK => ?_) ?_
    · go_simp
      exact hK _ _ ((e _ _ _ _).mp s012356789)
    exact AllReadyIn.nil
  have s1235678 : G 5 #[false, true, true, true, false, true, true, true, true, false, false, false] { tmps := #[v0, v1, v2, v3, v4, v5, v6, .pointer (some ⟨Bt, 0, none⟩), .pointer (some ⟨Bl, 0, none⟩), .pointer (some ⟨Bh, 0, none⟩), .int .i64 s, v11, v12, v13, v14, v15, v16, v17, v18, v19, v20, v21, v22, v23, v24, v25, v26, v27, v28, v29, v30, .map (some M), .int .i64 s, .int .i64 (zv s), v34, .int .i64 H, .map (some M), .int .i64 s, .int .i64 (zv s), v39, v40, v41], defers := [] } W.drew := by
    refine (e _ _ _ _).mpr (wpAnyIn_ready (rs := [0, 9]) (by kernel_rfl) (by simp) ?_)
    refine AllReadyIn.cons rfl (fun K hK => ?_) ?_
    · go_simp
      exact hK _ _ ((e _ _ _ _).mp s01235678)
    refine AllReadyIn.cons rfl (fun K hK => ?_) ?_
    · go_simp
      exact hK _ _ ((e _ _ _ _).mp s12356789)
    exact AllReadyIn.nil
  have s123567 : G 6 #[false, true, true, true, false, true, true, true, false, false, false, false] { tmps := #[v0, v1, v2, v3, v4, v5, v6, .pointer (some ⟨Bt, 0, none⟩), .pointer (some ⟨Bl, 0, none⟩), .pointer (some ⟨Bh, 0, none⟩), .int .i64 s, v11, v12, v13, v14, v15, v16, v17, v18, v19, v20, v21, v22, v23, v24, v25, v26, v27, v28, v29, v30, .map (some M), .int .i64 s, .int .i64 (zv s), v34, .int .i64 H, .map (some M), .int .i64 s, v38, v39, v40, v41], defers := [] } W.drew := by
    refine (e _ _ _ _).mpr (wpAnyIn_ready (rs := [0, 8]) (by kernel_rfl) (by simp) ?_)
    refine AllReadyIn.cons rfl (fun K hK => ?_) ?_
    · go_simp
      exact hK _ _ ((e _ _ _ _).mp s0123567)
    refine AllReadyIn.cons rfl (fun K hK => ?_) ?_
    · go_simp
      exact hK _ _ ((e _ _ _ _).mp s1235678)
    exact AllReadyIn.nil
  have s12357 : G 7 #[false, true, true, true, false, true, false, true, false, false, false, false] { tmps := #[v0, v1, v2, v3, v4, v5, v6, .pointer (some ⟨Bt, 0, none⟩), .pointer (some ⟨Bl, 0, none⟩), .pointer (some ⟨Bh, 0, none⟩), .int .i64 s, v11, v12, v13, v14, v15, v16, v17, v18, v19, v20, v21, v22, v23, v24, v25, v26, v27, v28, v29, v30, .map (some M), .int .i64 s, .int .i64 (zv s), v34, .int .i64 H, v36, .int .i64 s, v38, v39, v40, v41], defers := [] } W.drew := by
    refine (e _ _ _ _).mpr (wpAnyIn_ready (rs := [0, 6]) (by kernel_rfl) (by simp) ?_)
    refine AllReadyIn.cons rfl (fun K hK => ?_) ?_
    · go_simp
      exact hK _ _ ((e _ _ _ _).mp s012357)
    refine AllReadyIn.cons rfl (fun K hK => ?_) ?_
    · go_simp
      exact hK _ _ ((e _ _ _ _).mp s123567)
    exact AllReadyIn.nil
  have s123678 : G 6 #[false, true, true, true, false, false, true, true, true, false, false, false] { tmps := #[v0, v1, v2, v3, v4, v5, v6, .pointer (some ⟨Bt, 0, none⟩), .pointer (some ⟨Bl, 0, none⟩), .pointer (some ⟨Bh, 0, none⟩), .int .i64 s, v11, v12, v13, v14, v15, v16, v17, v18, v19, v20, v21, v22, v23, v24, v25, v26, v27, v28, v29, v30, .map (some M), .int .i64 s, .int .i64 (zv s), v34, v35, .map (some M), .int .i64 s, .int .i64 (zv s), v39, v40, v41], defers := [] } W.drew := by
    refine (e _ _ _ _).mpr (wpAnyIn_ready (rs := [0, 5]) (by kernel_rfl) (by simp) ?_)
    refine AllReadyIn.cons rfl (fun K hK => ?_) ?_
    · go_simp
      exact hK _ _ ((e _ _ _ _).mp s0123678)
    refine AllReadyIn.cons rfl (fun K hK => ?_) ?_
    · go_simp
      exact hK _ _ ((e _ _ _ _).mp s1235678)
    exact AllReadyIn.nil
  have s12367 : G 7 #[false, true, true, true, false, false, true, true, false, false, false, false] { tmps := #[v0, v1, v2, v3, v4, v5, v6, .pointer (some ⟨Bt, 0, none⟩), .pointer (some ⟨Bl, 0, none⟩), .pointer (some ⟨Bh, 0, none⟩), .int .i64 s, v11, v12, v13, v14, v15, v16, v17, v18, v19, v20, v21, v22, v23, v24, v25, v26, v27, v28, v29, v30, .map (some M), .int .i64 s, .int .i64 (zv s), v34, v35, .map (some M), .int .i64 s, v38, v39, v40, v41], defers := [] } W.drew := by
    refine (e _ _ _ _).mpr (wpAnyIn_ready (rs := [0, 5, 8]) (by kernel_rfl) (by simp) ?_)
    refine AllReadyIn.cons rfl (fun K hK => ?_) ?_
    · go_simp
      exact hK _ _ ((e _ _ _ _).mp s012367)
    refine AllReadyIn.cons rfl (fun K hK => ?_) ?_
    · go_simp
      exact hK _ _ ((e _ _ _ _).mp s123567)
    refine AllReadyIn.cons rfl (fun K hK => ?_) ?_
    · go_simp
      exact hK _ _ ((e _ _ _ _).mp s123678)
    exact AllReadyIn.nil
  have s1237 : G 8 #[false, true, true, true, false, false, false, true, false, false, false, false] { tmps := #[v0, v1, v2, v3, v4, v5, v6, .pointer (some ⟨Bt, 0, none⟩), .pointer (some ⟨Bl, 0, none⟩), .pointer (some ⟨Bh, 0, none⟩), .int .i64 s, v11, v12, v13, v14, v15, v16, v17, v18, v19, v20, v21, v22, v23, v24, v25, v26, v27, v28, v29, v30, .map (some M), .int .i64 s, .int .i64 (zv s), v34, v35, v36, .int .i64 s, v38, v39, v40, v41], defers := [] } W.drew := by
    refine (e _ _ _ _).mpr (wpAnyIn_ready (rs := [0, 5, 6]) (by kernel_rfl) (by simp) ?_)
    refine AllReadyIn.cons rfl (fun K hK => ?_) ?_
    · go_simp
      exact hK _ _ ((e _ _ _ _).mp s01237)
    refine AllReadyIn.cons rfl (fun K hK => ?_) ?_
    · go_simp
      exact hK _ _ ((e _ _ _ _).mp s12357)
    refine AllReadyIn.cons rfl (fun K hK => ?_) ?_
    · go_simp
      exact hK _ _ ((e _ _ _ _).mp s12367)
    exact AllReadyIn.nil
  have s1256789 : G 5 #[false, true, true, false, false, true, true, true, true, true, false, false] { tmps := #[v0, v1, v2, v3, v4, v5, v6, .pointer (some ⟨Bt, 0, none⟩), .pointer (some ⟨Bl, 0, none⟩), .pointer (some ⟨Bh, 0, none⟩), .int .i64 s, v11, v12, v13, v14, v15, v16, v17, v18, v19, v20, v21, v22, v23, v24, v25, v26, v27, v28, v29, v30, .map (some M), .int .i64 s, v33, v34, .int .i64 H, .map (some M), .int .i64 s, .int .i64 (zv s), .int .i64 (mx H (zv s)), v40, v41], defers := [] } W.drew := by
    refine (e _ _ _ _).mpr (wpAnyIn_ready (rs := [0, 3]) (by kernel_rfl) (by simp) ?_)
    refine AllReadyIn.cons rfl (fun K hK => ?_) ?_
    · go_simp
      exact hK _ _ ((e _ _ _ _).mp s01256789)
    refine AllReadyIn.cons rfl (fun K hK => ?_) ?_
    · go_simp
      exact hK _ _ ((e _ _ _ _).mp s12356789)
    exact AllReadyIn.nil
  have s125678 : G 6 #[false, true, true, false, false, true, true, true, true, false, false, false] { tmps := #[v0, v1, v2, v3, v4, v5, v6, .pointer (some ⟨Bt, 0, none⟩), .pointer (some ⟨Bl, 0, none⟩), .pointer (some ⟨Bh, 0, none⟩), .int .i64 s, v11, v12, v13, v14, v15, v16, v17, v18, v19, v20, v21, v22, v23, v24, v25, v26, v27, v28, v29, v30, .map (some M), .int .i64 s, v33, v34, .int .i64 H, .map (some M), .int .i64 s, .int .i64 (zv s), v39, v40, v41], defers := [] } W.drew := by
    refine (e _ _ _ _).mpr (wpAnyIn_ready (rs := [0, 3, 9]) (by kernel_rfl) (by simp) ?_)
    refine AllReadyIn.cons rfl (fun K hK => ?_) ?_
    · go_simp
      exact hK _ _ ((e _ _ _ _).mp s0125678)
    refine AllReadyIn.cons rfl (fun K hK => ?_) ?_
    · go_simp
      exact hK _ _ ((e _ _ _ _).mp s1235678)
    refine AllReadyIn.cons rfl (fun K hK => ?_) ?_
    · go_simp
      exact hK _ _ ((e _ _ _ _).mp s1256789)
    exact AllReadyIn.nil
  have s12567 : G 7 #[false, true, true, false, false, true, true, true, false, false, false, false] { tmps := #[v0, v1, v2, v3, v4, v5, v6, .pointer (some ⟨Bt, 0, none⟩), .pointer (some ⟨Bl, 0, none⟩), .pointer (some ⟨Bh, 0, none⟩), .int .i64 s, v11, v12, v13, v14, v15, v16, v17, v18, v19, v20, v21, v22, v23, v24, v25, v26, v27, v28, v29, v30, .map (some M), .int .i64 s, v33, v34, .int .i64 H, .map (some M), .int .i64 s, v38, v39, v40, v41], defers := [] } W.drew := by
    refine (e _ _ _ _).mpr (wpAnyIn_ready (rs := [0, 3, 8]) (by kernel_rfl) (by simp) ?_)
    refine AllReadyIn.cons rfl (fun K hK => ?_) ?_
    · go_simp
      exact hK _ _ ((e _ _ _ _).mp s012567)
    refine AllReadyIn.cons rfl (fun K hK => ?_) ?_
    · go_simp
      exact hK _ _ ((e _ _ _ _).mp s123567)
    refine AllReadyIn.cons rfl (fun K hK => ?_) ?_
    · go_simp
      exact hK _ _ ((e _ _ _ _).mp s125678)
    exact AllReadyIn.nil
  have s1257 : G 8 #[false, true, true, false, false, true, false, true, false, false, false, false] { tmps := #[v0, v1, v2, v3, v4, v5, v6, .pointer (some ⟨Bt, 0, none⟩), .pointer (some ⟨Bl, 0, none⟩), .pointer (some ⟨Bh, 0, none⟩), .int .i64 s, v11, v12, v13, v14, v15, v16, v17, v18, v19, v20, v21, v22, v23, v24, v25, v26, v27, v28, v29, v30, .map (some M), .int .i64 s, v33, v34, .int .i64 H, v36, .int .i64 s, v38, v39, v40, v41], defers := [] } W.drew := by
    refine (e _ _ _ _).mpr (wpAnyIn_ready (rs := [0, 3, 6]) (by kernel_rfl) (by simp) ?_)
    refine AllReadyIn.cons rfl (fun K hK => ?_) ?_
    · go_simp
      exact hK _ _ ((e _ _ _ _).mp s01257)
    refine AllReadyIn.cons rfl (fun K hK => ?_) ?_
    · go_simp
      exact hK _ _ ((e _ _ _ _).mp s12357)
    refine AllReadyIn.cons rfl (fun K hK => ?_) ?_
    · go_simp
      exact hK _ _ ((e _ _ _ _).mp s12567)
    exact AllReadyIn.nil
  have s12678 : G 7 #[false, true, true, false, false, false, true, true, true, false, false, false] { tmps := #[v0, v1, v2, v3, v4, v5, v6, .pointer (some ⟨Bt, 0, none⟩), .pointer (some ⟨Bl, 0, none⟩), .pointer (some ⟨Bh, 0, none⟩), .int .i64 s, v11, v12, v13, v14, v15, v16, v17, v18, v19, v20, v21, v22, v23, v24, v25, v26, v27, v28, v29, v30, .map (some M), .int .i64 s, v33, v34, v35, .map (some M), .int .i64 s, .int .i64 (zv s), v39, v40, v41], defers := [] } W.drew := by
    refine (e _ _ _ _).mpr (wpAnyIn_ready (rs := [0, 3, 5]) (by kernel_rfl) (by simp) ?_)
    refine AllReadyIn.cons rfl (fun K hK => ?_) ?_
    · go_simp
      exact hK _ _ ((e _ _ _ _).mp s012678)
    refine AllReadyIn.cons rfl (fun K hK => ?_) ?_
    · go_simp
      exact hK _ _ ((e _ _ _ _).mp s123678)
    refine AllReadyIn.cons rfl (fun K hK => ?_) ?_
    · go_simp
      exact hK _ _ ((e _ _ _ _).mp s125678)
    exact AllReadyIn.nil
  have s1267 : G 8 #[false, true, true, false, false, false, true, true, false, false, false, false] { tmps := #[v0, v1, v2, v3, v4, v5, v6, .pointer (some ⟨Bt, 0, none⟩), .pointer (some ⟨Bl, 0, none⟩), .pointer (some ⟨Bh, 0, none⟩), .int .i64 s, v11, v12, v13, v14, v15, v16, v17, v18, v19, v20, v21, v22, v23, v24, v25, v26, v27, v28, v29, v30, .map (some M), .int .i64 s, v33, v34, v35, .map (some M), .int .i64 s, v38, v39, v40, v41], defers := [] } W.drew := by
    refine (e _ _ _ _).mpr (wpAnyIn_ready (rs := [0, 3, 5, 8]) (by kernel_rfl) (by simp) ?_)
    refine AllReadyIn.cons rfl (fun K hK => ?_) ?_
    · go_simp
      exact hK _ _ ((e _ _ _ _).mp s01267)
    refine AllReadyIn.cons rfl (fun K hK => ?_) ?_
    · go_simp
      exact hK _ _ ((e _ _ _ _).mp s12367)
    refine AllReadyIn.cons rfl (fun K hK => ?_) ?_
    · go_simp
      exact hK _ _ ((e _ _ _ _).mp s12567)
    refine AllReadyIn.cons rfl (fun K hK => ?_) ?_
    · go_simp
      exact hK _ _ ((e _ _ _ _).mp s12678)
    exact AllReadyIn.nil
  have s127 : G 9 #[false, true, true, false, false, false, false, true, false, false, false, false] { tmps := #[v0, v1, v2, v3, v4, v5, v6, .pointer (some ⟨Bt, 0, none⟩), .pointer (some ⟨Bl, 0, none⟩), .pointer (some ⟨Bh, 0, none⟩), .int .i64 s, v11, v12, v13, v14, v15, v16, v17, v18, v19, v20, v21, v22, v23, v24, v25, v26, v27, v28, v29, v30, .map (some M), .int .i64 s, v33, v34, v35, v36, .int .i64 s, v38, v39, v40, v41], defers := [] } W.drew := by
    refine (e _ _ _ _).mpr (wpAnyIn_ready (rs := [0, 3, 5, 6]) (by kernel_rfl) (by simp) ?_)
    refine AllReadyIn.cons rfl (fun K hK => ?_) ?_
    · go_simp
      exact hK _ _ ((e _ _ _ _).mp s0127)
    refine AllReadyIn.cons rfl (fun K hK => ?_) ?_
    · go_simp
      exact hK _ _ ((e _ _ _ _).mp s1237)
    refine AllReadyIn.cons rfl (fun K hK => ?_) ?_
    · go_simp
      exact hK _ _ ((e _ _ _ _).mp s1257)
    refine AllReadyIn.cons rfl (fun K hK => ?_) ?_
    · go_simp
      exact hK _ _ ((e _ _ _ _).mp s1267)
    exact AllReadyIn.nil
  have s256789 : G 6 #[false, false, true, false, false, true, true, true, true, true, false, false] { tmps := #[v0, v1, v2, v3, v4, v5, v6, .pointer (some ⟨Bt, 0, none⟩), .pointer (some ⟨Bl, 0, none⟩), .pointer (some ⟨Bh, 0, none⟩), .int .i64 s, v11, v12, v13, v14, v15, v16, v17, v18, v19, v20, v21, v22, v23, v24, v25, v26, v27, v28, v29, v30, v31, .int .i64 s, v33, v34, .int .i64 H, .map (some M), .int .i64 s, .int .i64 (zv s), .int .i64 (mx H (zv s)), v40, v41], defers := [] } W.drew := by
    refine (e _ _ _ _).mpr (wpAnyIn_ready (rs := [0, 1]) (by kernel_rfl) (by simp) ?_)
    refine AllReadyIn.cons rfl (fun K hK => ?_) ?_
    · go_simp
      exact hK _ _ ((e _ _ _ _).mp s0256789)
    refine AllReadyIn.cons rfl (fun K hK => ?_) ?_
    · go_simp
      exact hK _ _ ((e _ _ _ _).mp s1256789)
    exact AllReadyIn.nil
  have s25678 : G 7 #[false, false, true, false, false, true, true, true, true, false, false, false] { tmps := #[v0, v1, v2, v3, v4, v5, v6, .pointer (some ⟨Bt, 0, none⟩), .pointer (some ⟨Bl, 0, none⟩), .pointer (some ⟨Bh, 0, none⟩), .int .i64 s, v11, v12, v13, v14, v15, v16, v17, v18, v19, v20, v21, v22, v23, v24, v25, v26, v27, v28, v29, v30, v31, .int .i64 s, v33, v34, .int .i64 H, .map (some M), .int .i64 s, .int .i64 (zv s), v39, v40, v41], defers := [] } W.drew := by
    refine (e _ _ _ _).mpr (wpAnyIn_ready (rs := [0, 1, 9]) (by kernel_rfl) (by simp) ?_)
    refine AllReadyIn.cons rfl (fun K hK => ?_) ?_
    · go_simp
      exact hK _ _ ((e _ _ _ _).mp s025678)
    refine AllReadyIn.cons rfl (fun K hK => ?_) ?_
    · go_simp
      exact hK _ _ ((e _ _ _ _).mp s125678)
    refine AllReadyIn.cons rfl (fun K hK => ?_) ?_
    · go_simp
      exact hK _ _ ((e _ _ _ _).mp s256789)
    exact AllReadyIn.nil
  have s2567 : G 8 #[false, false, true, false, false, true, true, true, false, false, false, false] { tmps := #[v0, v1, v2, v3, v4, v5, v6, .pointer (some ⟨Bt, 0, none⟩), .pointer (some ⟨Bl, 0, none⟩), .pointer (some ⟨Bh, 0, none⟩), .int .i64 s, v11, v12, v13, v14, v15, v16, v17, v18, v19, v20, v21, v22, v23, v24, v25, v26, v27, v28, v29, v30, v31, .int .i64 s, v33, v34, .int .i64 H, .map (some M), .int .i64 s, v38, v39, v40, v41], defers := [] } W.drew := by
    refine (e _ _ _ _).mpr (wpAnyIn_ready (rs := [0, 1, 8]) (by kernel_rfl) (by simp) ?_)
    refine AllReadyIn.cons rfl (fun K hK => ?_) ?_
    · go_simp
      exact hK _ _ ((e _ _ _ _).mp s02567)
    refine AllReadyIn.cons rfl (fun K hK => ?_) ?_
    · go_simp
      exact hK _ _ ((e _ _ _ _).mp s12567)
    refine AllReadyIn.cons rfl (fun K hK => ?_) ?_
    · go_simp
      exact hK _ _ ((e _ _ _ _).mp s25678)
    exact AllReadyIn.nil
  have s257 : G 9 #[false, false, true, false, false, true, false, true, false, false, false, false] { tmps := #[v0, v1, v2, v3, v4, v5, v6, .pointer (some ⟨Bt, 0, none⟩), .pointer (some ⟨Bl, 0, none⟩), .pointer (some ⟨Bh, 0, none⟩), .int .i64 s, v11, v12, v13, v14, v15, v16, v17, v18, v19, v20, v21, v22, v23, v24, v25, v26, v27, v28, v29, v30, v31, .int .i64 s, v33, v34, .int .i64 H, v36, .int .i64 s, v38, v39, v40, v41], defers := [] } W.drew := by
    refine (e _ _ _ _).mpr (wpAnyIn_ready (rs := [0, 1, 6]) (by kernel_rfl) (by simp) ?_)
    refine AllReadyIn.cons rfl (fun K hK => ?_) ?_
    · go_simp
      exact hK _ _ ((e _ _ _ _).mp s0257)
    refine AllReadyIn.cons rfl (fun K hK => ?_) ?_
    · go_simp
      exact hK _ _ ((e _ _ _ _).mp s1257)
    refine AllReadyIn.cons rfl (fun K hK => ?_) ?_
    · go_simp
      exact hK _ _ ((e _ _ _ _).mp s2567)
    exact AllReadyIn.nil
  have s2678 : G 8 #[false, false, true, false, false, false, true, true, true, false, false, false] { tmps := #[v0, v1, v2, v3, v4, v5, v6, .pointer (some ⟨Bt, 0, none⟩), .pointer (some ⟨Bl, 0, none⟩), .pointer (some ⟨Bh, 0, none⟩), .int .i64 s, v11, v12, v13, v14, v15, v16, v17, v18, v19, v20, v21, v22, v23, v24, v25, v26, v27, v28, v29, v30, v31, .int .i64 s, v33, v34, v35, .map (some M), .int .i64 s, .int .i64 (zv s), v39, v40, v41], defers := [] } W.drew := by
    refine (e _ _ _ _).mpr (wpAnyIn_ready (rs := [0, 1, 5]) (by kernel_rfl) (by simp) ?_)
    refine AllReadyIn.cons rfl (fun K hK => ?_) ?_
    · go_simp
      exact hK _ _ ((e _ _ _ _).mp s02678)
    refine AllReadyIn.cons rfl (fun K hK => ?_) ?_
    · go_simp
      exact hK _ _ ((e _ _ _ _).mp s12678)
    refine AllReadyIn.cons rfl (fun K hK => ?_) ?_
    · go_simp
      exact hK _ _ ((e _ _ _ _).mp s25678)
    exact AllReadyIn.nil
  have s267 : G 9 #[false, false, true, false, false, false, true, true, false, false, false, false] { tmps := #[v0, v1, v2, v3, v4, v5, v6, .pointer (some ⟨Bt, 0, none⟩), .pointer (some ⟨Bl, 0, none⟩), .pointer (some ⟨Bh, 0, none⟩), .int .i64 s, v11, v12, v13, v14, v15, v16, v17, v18, v19, v20, v21, v22, v23, v24, v25, v26, v27, v28, v29, v30, v31, .int .i64 s, v33, v34, v35, .map (some M), .int .i64 s, v38, v39, v40, v41], defers := [] } W.drew := by
    refine (e _ _ _ _).mpr (wpAnyIn_ready (rs := [0, 1, 5, 8]) (by kernel_rfl) (by simp) ?_)
    refine AllReadyIn.cons rfl (fun K hK => ?_) ?_
    · go_simp
      exact hK _ _ ((e _ _ _ _).mp s0267)
    refine AllReadyIn.cons rfl (fun K hK => ?_) ?_
    · go_simp
      exact hK _ _ ((e _ _ _ _).mp s1267)
    refine AllReadyIn.cons rfl (fun K hK => ?_) ?_
    · go_simp
      exact hK _ _ ((e _ _ _ _).mp s2567)
    refine AllReadyIn.cons rfl (fun K hK => ?_) ?_
    · go_simp
      exact hK _ _ ((e _ _ _ _).mp s2678)
    exact AllReadyIn.nil
  have s27 : G 10 #[false, false, true, false, false, false, false, true, false, false, false, false] { tmps := #[v0, v1, v2, v3, v4, v5, v6, .pointer (some ⟨Bt, 0, none⟩), .pointer (some ⟨Bl, 0, none⟩), .pointer (some ⟨Bh, 0, none⟩), .int .i64 s, v11, v12, v13, v14, v15, v16, v17, v18, v19, v20, v21, v22, v23, v24, v25, v26, v27, v28, v29, v30, v31, .int .i64 s, v33, v34, v35, v36, .int .i64 s, v38, v39, v40, v41], defers := [] } W.drew := by
    refine (e _ _ _ _).mpr (wpAnyIn_ready (rs := [0, 1, 5, 6]) (by kernel_rfl) (by simp) ?_)
    refine AllReadyIn.cons rfl (fun K hK => ?_) ?_
    · go_simp
      exact hK _ _ ((e _ _ _ _).mp s027)
    refine AllReadyIn.cons rfl (fun K hK => ?_) ?_
    · go_simp
      exact hK _ _ ((e _ _ _ _).mp s127)
    refine AllReadyIn.cons rfl (fun K hK => ?_) ?_
    · go_simp
      exact hK _ _ ((e _ _ _ _).mp s257)
    refine AllReadyIn.cons rfl (fun K hK => ?_) ?_
    · go_simp
      exact hK _ _ ((e _ _ _ _).mp s267)
    exact AllReadyIn.nil
  exact s27
end Go.Proofs.Ytdiijjdhofaodaa.G
