/- What the functions that this claim reaches do and answer: printed words and walks, walks by hand and plain laws, packed together, each with its own remark; printed rows are by the kit's print program, turned by this session. Conditions: those that each theorem states. -/
import Derived.RegionIn
import Derived.RangeFuncWrites
import Derived.RangeFuncNested
import Derived.BigRegion
import Derived.RangeFuncLeaves
import Derived.OwnWalk
import Derived.WalkKit
import Derived.KernelRfl
import Derived.Laws.EntriesVeiled
import Derived.WalkLawsBesides
import Derived.Lib.Hide
import Derived.Test.YtdiijjdhofaodaaKA0
import Derived.Test.YtdiijjdhofaodaaKA1
import Derived.Test.YtdiijjdhofaodaaProg
section
namespace Go.Proofs.Ytdiijjdhofaodaa.G
open Go Go.RowKit Go.Shelf Go.Proofs.YtdiijjdhofaodaaW.PrintWords Go.Proofs.YtdiijjdhofaodaaW.PrintLast Go.Proofs.YtdiijjdhofaodaaW.PrintMore
attribute [local go_sem] Oper.semAt_some
attribute [local go_sem] max2_mx min2_mn max_two min_two
theorem tabAt_drew_iff {w : World} {b : Nat} : TabAt w.drew b ↔ TabAt w b := Iff.rfl
attribute [local go_sem] tab_lookup tabAt_drew_iff
/-! Parts of a function's code. -/
def cSnd : Option Code → Option Code | some (.seq _ b) => some b | _ => none
def cFst : Option Code → Option Code | some (.seq a _) => some a | _ => none
def cBlk : Option Code → Option Code | some (.block _ c) => some c | _ => none
def cRound : Option Code → Option Code | some (.rangeFunc _ _ _ b) => some b | _ => none
def zTail (f : Func) : Option Code := cSnd (cSnd (cSnd (cSnd f.body)))
def zRest (f : Func) : Option Code := cSnd (zTail f)
def zBody (f : Func) : Option Code := cRound (cBlk (cSnd (cFst (zTail f))))
/-- The lowest and the highest zone among the first stations of a way, and z. -/
def lowOf (a b z : Int) (l : List Nat) : Int := l.foldl (fun x j => mn x (zv (stn a b j))) z
def highOf (a b z : Int) (l : List Nat) : Int := l.foldl (fun x j => mx x (zv (stn a b j))) z
theorem lowOf_snoc (a b z : Int) (l : List Nat) (j : Nat) : lowOf a b z (l ++ [j]) = mn (lowOf a b z l) (zv (stn a b j)) := by simp [lowOf]
theorem highOf_snoc (a b z : Int) (l : List Nat) (j : Nat) : highOf a b z (l ++ [j]) = mx (highOf a b z l) (zv (stn a b j)) := by simp [highOf]
theorem kab_drew (Ba : Nat) (W : World) : Kab Ba W W.drew := ⟨rfl, rfl⟩
theorem kab_setCell {Ba : Nat} (W : World) (B : Nat) (v : Value) (h0 : Ba ≠ B) (h1 : Ba + 1 ≠ B) : Kab Ba W (W.setCell ⟨B, 0, none⟩ v) := ⟨Below.heap_setCell _ _ _ _ h0, Below.heap_setCell _ _ _ _ h1⟩
/-- What holds in each round: the boxes and the map. -/
def Zi (w : World) (Bt Bl Bh M : Nat) (L H : Int) (W : World) : Prop :=
  Boxed W Bl 3 (.int .i64 L) ∧ Boxed W Bh 3 (.int .i64 H) ∧ Boxed W Bt 74 (.map (some M)) ∧ TabAt W M ∧ Below w.heap.size w W
set_option maxRecDepth 100000 in
set_option maxHeartbeats 4000000 in
theorem zones_body (c : Code) (hc : zBody Try.f63 = some c) (l : Nat) (w : World) (Nb Bt Bl Bh Ba M : Nat) (n1 : Bl ≠ Bh) (n2 : Bt ≠ Bl) (n3 : Bt ≠ Bh) (n4 : Ba ≠ Bl) (n5 : Ba ≠ Bh) (n6 : Ba + 1 ≠ Bl) (n7 : Ba + 1 ≠ Bh) (n8 : w.heap.size ≤ Bl) (n9 : w.heap.size ≤ Bh)
    (I : List Nat → World → Prop) (Ix : Code → List Nat → World → Prop) (ys : List Nat) (s L H : Int) (s0 : 0 ≤ s) (s1 : s < 40) (W : World) (hI : Zi w Bt Bl Bh M L H W) (hJ : ∀ W', Zi w Bt Bl Bh M (mn L (zv s)) (mx H (zv s)) W' → I ys W')
    (v0 v1 v2 v3 v4 v5 v6 v11 v12 v13 v14 v15 v16 v17 v18 v19 v20 v21 v22 v23 v24 v25 v26 v27 v28 v29 v30 v31 v32 v33 v34 v35 v36 v37 v38 v39 v40 v41 : Value) :
    c.wpIn (Fence.wide.inRound l) 3 Try.prog (ownPostG Nb (Kab Ba) I Ix ys W) { tmps := #[v0, v1, v2, v3, v4, v5, v6, .pointer (some ⟨Bt, 0, none⟩), .pointer (some ⟨Bl, 0, none⟩), .pointer (some ⟨Bh, 0, none⟩), .int .i64 s, v11, v12, v13, v14, v15, v16, v17, v18, v19, v20, v21, v22, v23, v24, v25, v26, v27, v28, v29, v30, v31, v32, v33, v34, v35, v36, v37, v38, v39, v40, v41], defers := [] } W := by
  obtain rfl := Option.some.inj ((rfl : zBody Try.f63 = some _).symm.trans hc)
  clear hc
  obtain ⟨hl, hh, ht, hT', hB⟩ := hI
  have cl := hl.cell
  have fl := hl.frozen
  have ch := hh.cell
  have fh := hh.frozen
  have ct := ht.cell
  have hl' : Boxed W.drew Bl 3 (.int .i64 L) := hl
  have hh1 := Boxed.other (W := W.drew) hh (Ne.symm n1) (.int .i64 (mn L (zv s)))
  have c1h := hh1.cell
  have f1h := hh1.frozen
  have c1t := (Boxed.other (W := W.drew) ht n2 (.int .i64 (mn L (zv s)))).cell
  have T1 := tabAt_setCell (w := W.drew) hT' ⟨Bl, 0, none⟩ (.int .i64 (mn L (zv s)))
  have T2 : TabAt (W.setCell ⟨Bl, 0, none⟩ (.int .i64 (mn L (zv s)))) M := T1
  have hfin : KeepsFrom Nb W ((W.drew.setCell ⟨Bl, 0, none⟩ (.int .i64 (mn L (zv s)))).setCell ⟨Bh, 0, none⟩ (.int .i64 (mx H (zv s)))) ∧ Kab Ba W ((W.drew.setCell ⟨Bl, 0, none⟩ (.int .i64 (mn L (zv s)))).setCell ⟨Bh, 0, none⟩ (.int .i64 (mx H (zv s)))) ∧ I ys ((W.drew.setCell ⟨Bl, 0, none⟩ (.int .i64 (mn L (zv s)))).setCell ⟨Bh, 0, none⟩ (.int .i64 (mx H (zv s)))) := by
    refine ⟨(((KeepsOthers.drew W).trans (KeepsOthers.setCell _ _ _)).trans (KeepsOthers.setCell _ _ _)).from _, ((kab_drew Ba W).tr (kab_setCell _ _ _ n4 n6)).tr (kab_setCell _ _ _ n5 n7), hJ _ ⟨?_, ?_, ?_, tabAt_setCell T1 _ _, ((hB.drew).setCell (p := ⟨Bl, 0, none⟩) n8 _).setCell (p := ⟨Bh, 0, none⟩) n9 _⟩⟩
    · exact (Boxed.set _ hl').other n1 _
    · exact Boxed.set _ hh1
    · exact (Boxed.other (W := W.drew) ht n2 _).other n3 _
  clear hJ hB hl hh ht hl' hh1
  gi_wp2
  refine wpIn_region_any (by kernel_rfl) (wpAnyIn_inRound (by kernel_rfl) _ _ _ _ ?_)
  change wpAnyIn _ _ _ _ _ _ _ _ _ W.drew
  refine any_capture fun G e => ?_
  refine (e _ _ _ _).mpr (wpAnyIn_take (i := 2) (v := .int .i64 s) rfl rfl (by kernel_rfl) (by kernel_rfl) (by kernel_rfl) (fun _ _ _ h => h) ⟨Or.inl ⟨by rfl, fun w => by go_simp⟩, fun _ => rfl⟩ ?_)
  refine wpAnyIn_take (i := 7) (v := .int .i64 s) rfl rfl (by kernel_rfl) (by kernel_rfl) (by kernel_rfl) (fun _ _ _ h => h) ⟨Or.inl ⟨by rfl, fun w => by go_simp⟩, fun _ => rfl⟩ ?_
  refine (e _ _ _ _).mp ?_
  have s0123456789ab : G 0 #[true, true, true, true, true, true, true, true, true, true, true, true] { tmps := #[v0, v1, v2, v3, v4, v5, v6, .pointer (some ⟨Bt, 0, none⟩), .pointer (some ⟨Bl, 0, none⟩), .pointer (some ⟨Bh, 0, none⟩), .int .i64 s, v11, v12, v13, v14, v15, v16, v17, v18, v19, v20, v21, v22, v23, v24, v25, v26, v27, v28, v29, .int .i64 L, .map (some M), .int .i64 s, .int .i64 (zv s), .int .i64 (mn L (zv s)), .int .i64 H, .map (some M), .int .i64 s, .int .i64 (zv s), .int .i64 (mx H (zv s)), v40, v41], defers := [] } ((W.drew.setCell ⟨Bl, 0, none⟩ (.int .i64 (mn L (zv s)))).setCell ⟨Bh, 0, none⟩ (.int .i64 (mx H (zv s)))) := by
    refine (e _ _ _ _).mpr ?_
    refine wpAnyIn_done (by kernel_rfl) ?_ _
    gi_wp2
    exact hfin
  have s0123456789a : G 1 #[true, true, true, true, true, true, true, true, true, true, true, false] { tmps := #[v0, v1, v2, v3, v4, v5, v6, .pointer (some ⟨Bt, 0, none⟩), .pointer (some ⟨Bl, 0, none⟩), .pointer (some ⟨Bh, 0, none⟩), .int .i64 s, v11, v12, v13, v14, v15, v16, v17, v18, v19, v20, v21, v22, v23, v24, v25, v26, v27, v28, v29, .int .i64 L, .map (some M), .int .i64 s, .int .i64 (zv s), .int .i64 (mn L (zv s)), .int .i64 H, .map (some M), .int .i64 s, .int .i64 (zv s), .int .i64 (mx H (zv s)), v40, v41], defers := [] } (W.drew.setCell ⟨Bl, 0, none⟩ (.int .i64 (mn L (zv s)))) := by
    refine (e _ _ _ _).mpr (wpAnyIn_ready (rs := [11]) (by kernel_rfl) (by simp) ?_)
    refine AllReadyIn.cons rfl (fun K hK => ?_) ?_
    · go_simp
      exact hK _ _ ((e _ _ _ _).mp s0123456789ab)
    exact AllReadyIn.nil
  have s0123456789 : G 2 #[true, true, true, true, true, true, true, true, true, true, false, false] { tmps := #[v0, v1, v2, v3, v4, v5, v6, .pointer (some ⟨Bt, 0, none⟩), .pointer (some ⟨Bl, 0, none⟩), .pointer (some ⟨Bh, 0, none⟩), .int .i64 s, v11, v12, v13, v14, v15, v16, v17, v18, v19, v20, v21, v22, v23, v24, v25, v26, v27, v28, v29, .int .i64 L, .map (some M), .int .i64 s, .int .i64 (zv s), .int .i64 (mn L (zv s)), .int .i64 H, .map (some M), .int .i64 s, .int .i64 (zv s), .int .i64 (mx H (zv s)), v40, v41], defers := [] } W.drew := by
    refine (e _ _ _ _).mpr (wpAnyIn_ready (rs := [10]) (by kernel_rfl) (by simp) ?_)
    refine AllReadyIn.cons rfl (fun K hK => ?_) ?_
    · go_simp
      exact hK _ _ ((e _ _ _ _).mp s0123456789a)
    exact AllReadyIn.nil
  have s012345678a : G 2 #[true, true, true, true, true, true, true, true, true, false, true, false] { tmps := #[v0, v1, v2, v3, v4, v5, v6, .pointer (some ⟨Bt, 0, none⟩), .pointer (some ⟨Bl, 0, none⟩), .pointer (some ⟨Bh, 0, none⟩), .int .i64 s, v11, v12, v13, v14, v15, v16, v17, v18, v19, v20, v21, v22, v23, v24, v25, v26, v27, v28, v29, .int .i64 L, .map (some M), .int .i64 s, .int .i64 (zv s), .int .i64 (mn L (zv s)), .int .i64 H, .map (some M), .int .i64 s, .int .i64 (zv s), v39, v40, v41], defers := [] } (W.drew.setCell ⟨Bl, 0, none⟩ (.int .i64 (mn L (zv s)))) := by
    refine (e _ _ _ _).mpr (wpAnyIn_ready (rs := [9]) (by kernel_rfl) (by simp) ?_)
    refine AllReadyIn.cons rfl (fun K hK => ?_) ?_
    · go_simp
      exact hK _ _ ((e _ _ _ _).mp s0123456789a)
    exact AllReadyIn.nil
  have s012345678 : G 3 #[true, true, true, true, true, true, true, true, true, false, false, false] { tmps := #[v0, v1, v2, v3, v4, v5, v6, .pointer (some ⟨Bt, 0, none⟩), .pointer (some ⟨Bl, 0, none⟩), .pointer (some ⟨Bh, 0, none⟩), .int .i64 s, v11, v12, v13, v14, v15, v16, v17, v18, v19, v20, v21, v22, v23, v24, v25, v26, v27, v28, v29, .int .i64 L, .map (some M), .int .i64 s, .int .i64 (zv s), .int .i64 (mn L (zv s)), .int .i64 H, .map (some M), .int .i64 s, .int .i64 (zv s), v39, v40, v41], defers := [] } W.drew := by
    refine (e _ _ _ _).mpr (wpAnyIn_ready (rs := [9, 10]) (by kernel_rfl) (by simp) ?_)
    refine AllReadyIn.cons rfl (fun K hK => ?_) ?_
    · go_simp
      exact hK _ _ ((e _ _ _ _).mp s0123456789)
    refine AllReadyIn.cons rfl (fun K hK => ?_) ?_
    · go_simp
      exact hK _ _ ((e _ _ _ _).mp s012345678a)
    exact AllReadyIn.nil
  have s01234567a : G 3 #[true, true, true, true, true, true, true, true, false, false, true, false] { tmps := #[v0, v1, v2, v3, v4, v5, v6, .pointer (some ⟨Bt, 0, none⟩), .pointer (some ⟨Bl, 0, none⟩), .pointer (some ⟨Bh, 0, none⟩), .int .i64 s, v11, v12, v13, v14, v15, v16, v17, v18, v19, v20, v21, v22, v23, v24, v25, v26, v27, v28, v29, .int .i64 L, .map (some M), .int .i64 s, .int .i64 (zv s), .int .i64 (mn L (zv s)), .int .i64 H, .map (some M), .int .i64 s, v38, v39, v40, v41], defers := [] } (W.drew.setCell ⟨Bl, 0, none⟩ (.int .i64 (mn L (zv s)))) := by
    refine (e _ _ _ _).mpr (wpAnyIn_ready (rs := [8]) (by kernel_rfl) (by simp) ?_)
    refine AllReadyIn.cons rfl (fun K hK => ?_) ?_
    · go_simp
      exact hK _ _ ((e _ _ _ _).mp s012345678a)
    exact AllReadyIn.nil
  have s01234567 : G 4 #[true, true, true, true, true, true, true, true, false, false, false, false] { tmps := #[v0, v1, v2, v3, v4, v5, v6, .pointer (some ⟨Bt, 0, none⟩), .pointer (some ⟨Bl, 0, none⟩), .pointer (some ⟨Bh, 0, none⟩), .int .i64 s, v11, v12, v13, v14, v15, v16, v17, v18, v19, v20, v21, v22, v23, v24, v25, v26, v27, v28, v29, .int .i64 L, .map (some M), .int .i64 s, .int .i64 (zv s), .int .i64 (mn L (zv s)), .int .i64 H, .map (some M), .int .i64 s, v38, v39, v40, v41], defers := [] } W.drew := by
    refine (e _ _ _ _).mpr (wpAnyIn_ready (rs := [8, 10]) (by kernel_rfl) (by simp) ?_)
    refine AllReadyIn.cons rfl (fun K hK => ?_) ?_
    · go_simp
      exact hK _ _ ((e _ _ _ _).mp s012345678)
    refine AllReadyIn.cons rfl (fun K hK => ?_) ?_
    · go_simp
      exact hK _ _ ((e _ _ _ _).mp s01234567a)
    exact AllReadyIn.nil
  have s0123457a : G 4 #[true, true, true, true, true, true, false, true, false, false, true, false] { tmps := #[v0, v1, v2, v3, v4, v5, v6, .pointer (some ⟨Bt, 0, none⟩), .pointer (some ⟨Bl, 0, none⟩), .pointer (some ⟨Bh, 0, none⟩), .int .i64 s, v11, v12, v13, v14, v15, v16, v17, v18, v19, v20, v21, v22, v23, v24, v25, v26, v27, v28, v29, .int .i64 L, .map (some M), .int .i64 s, .int .i64 (zv s), .int .i64 (mn L (zv s)), .int .i64 H, v36, .int .i64 s, v38, v39, v40, v41], defers := [] } (W.drew.setCell ⟨Bl, 0, none⟩ (.int .i64 (mn L (zv s)))) := by
    refine (e _ _ _ _).mpr (wpAnyIn_ready (rs := [6]) (by kernel_rfl) (by simp) ?_)
    refine AllReadyIn.cons rfl (fun K hK => ?_) ?_
    · go_simp
      exact hK _ _ ((e _ _ _ _).mp s01234567a)
    exact AllReadyIn.nil
  have s0123457 : G 5 #[true, true, true, true, true, true, false, true, false, false, false, false] { tmps := #[v0, v1, v2, v3, v4, v5, v6, .pointer (some ⟨Bt, 0, none⟩), .pointer (some ⟨Bl, 0, none⟩), .pointer (some ⟨Bh, 0, none⟩), .int .i64 s, v11, v12, v13, v14, v15, v16, v17, v18, v19, v20, v21, v22, v23, v24, v25, v26, v27, v28, v29, .int .i64 L, .map (some M), .int .i64 s, .int .i64 (zv s), .int .i64 (mn L (zv s)), .int .i64 H, v36, .int .i64 s, v38, v39, v40, v41], defers := [] } W.drew := by
    refine (e _ _ _ _).mpr (wpAnyIn_ready (rs := [6, 10]) (by kernel_rfl) (by simp) ?_)
    refine AllReadyIn.cons rfl (fun K hK => ?_) ?_
    · go_simp
      exact hK _ _ ((e _ _ _ _).mp s01234567)
    refine AllReadyIn.cons rfl (fun K hK => ?_) ?_
    · go_simp
      exact hK _ _ ((e _ _ _ _).mp s0123457a)
    exact AllReadyIn.nil
  have s01234678a : G 3 #[true, true, true, true, true, false, true, true, true, false, true, false] { tmps := #[v0, v1, v2, v3, v4, v5, v6, .pointer (some ⟨Bt, 0, none⟩), .pointer (some ⟨Bl, 0, none⟩), .pointer (some ⟨Bh, 0, none⟩), .int .i64 s, v11, v12, v13, v14, v15, v16, v17, v18, v19, v20, v21, v22, v23, v24, v25, v26, v27, v28, v29, .int .i64 L, .map (some M), .int .i64 s, .int .i64 (zv s), .int .i64 (mn L (zv s)), v35, .map (some M), .int .i64 s, .int .i64 (zv s), v39, v40, v41], defers := [] } (W.drew.setCell ⟨Bl, 0, none⟩ (.int .i64 (mn L (zv s)))) := by
    refine (e _ _ _ _).mpr (wpAnyIn_ready (rs := [5]) (by kernel_rfl) (by simp) ?_)
    refine AllReadyIn.cons rfl (fun K hK => ?_) ?_
    · go_simp
      exact hK _ _ ((e _ _ _ _).mp s012345678a)
    exact AllReadyIn.nil
  have s01234678 : G 4 #[true, true, true, true, true, false, true, true, true, false, false, false] { tmps := #[v0, v1, v2, v3, v4, v5, v6, .pointer (some ⟨Bt, 0, none⟩), .pointer (some ⟨Bl, 0, none⟩), .pointer (some ⟨Bh, 0, none⟩), .int .i64 s, v11, v12, v13, v14, v15, v16, v17, v18, v19, v20, v21, v22, v23, v24, v25, v26, v27, v28, v29, .int .i64 L, .map (some M), .int .i64 s, .int .i64 (zv s), .int .i64 (mn L (zv s)), v35, .map (some M), .int .i64 s, .int .i64 (zv s), v39, v40, v41], defers := [] } W.drew := by
    refine (e _ _ _ _).mpr (wpAnyIn_ready (rs := [5, 10]) (by kernel_rfl) (by simp) ?_)
    refine AllReadyIn.cons rfl (fun K hK => ?_) ?_
    · go_simp
      exact hK _ _ ((e _ _ _ _).mp s012345678)
    refine AllReadyIn.cons rfl (fun K hK => ?_) ?_
    · go_simp
      exact hK _ _ ((e _ _ _ _).mp s01234678a)
    exact AllReadyIn.nil
  have s0123467a : G 4 #[true, true, true, true, true, false, true, true, false, false, true, false] { tmps := #[v0, v1, v2, v3, v4, v5, v6, .pointer (some ⟨Bt, 0, none⟩), .pointer (some ⟨Bl, 0, none⟩), .pointer (some ⟨Bh, 0, none⟩), .int .i64 s, v11, v12, v13, v14, v15, v16, v17, v18, v19, v20, v21, v22, v23, v24, v25, v26, v27, v28, v29, .int .i64 L, .map (some M), .int .i64 s, .int .i64 (zv s), .int .i64 (mn L (zv s)), v35, .map (some M), .int .i64 s, v38, v39, v40, v41], defers := [] } (W.drew.setCell ⟨Bl, 0, none⟩ (.int .i64 (mn L (zv s)))) := by
    refine (e _ _ _ _).mpr (wpAnyIn_ready (rs := [5, 8]) (by kernel_rfl) (by simp) ?_)
    refine AllReadyIn.cons rfl (fun K hK => ?_) ?_
    · go_simp
      exact hK _ _ ((e _ _ _ _).mp s01234567a)
    refine AllReadyIn.cons rfl (fun K hK => ?_) ?_
    · go_simp
      exact hK _ _ ((e _ _ _ _).mp s01234678a)
    exact AllReadyIn.nil
  have s0123467 : G 5 #[true, true, true, true, true, false, true, true, false, false, false, false] { tmps := #[v0, v1, v2, v3, v4, v5, v6, .pointer (some ⟨Bt, 0, none⟩), .pointer (some ⟨Bl, 0, none⟩), .pointer (some ⟨Bh, 0, none⟩), .int .i64 s, v11, v12, v13, v14, v15, v16, v17, v18, v19, v20, v21, v22, v23, v24, v25, v26, v27, v28, v29, .int .i64 L, .map (some M), .int .i64 s, .int .i64 (zv s), .int .i64 (mn L (zv s)), v35, .map (some M), .int .i64 s, v38, v39, v40, v41], defers := [] } W.drew := by
    refine (e _ _ _ _).mpr (wpAnyIn_ready (rs := [5, 8, 10]) (by kernel_rfl) (by simp) ?_)
    refine AllReadyIn.cons rfl (fun K hK => ?_) ?_
    · go_simp
      exact hK _ _ ((e _ _ _ _).mp s01234567)
    refine AllReadyIn.cons rfl (fun K hK => ?_) ?_
    · go_simp
      exact hK _ _ ((e _ _ _ _).mp s01234678)
    refine AllReadyIn.cons rfl (fun K hK => ?_) ?_
    · go_simp
      exact hK _ _ ((e _ _ _ _).mp s0123467a)
    exact AllReadyIn.nil
  have s012347a : G 5 #[true, true, true, true, true, false, false, true, false, false, true, false] { tmps := #[v0, v1, v2, v3, v4, v5, v6, .pointer (some ⟨Bt, 0, none⟩), .pointer (some ⟨Bl, 0, none⟩), .pointer (some ⟨Bh, 0, none⟩), .int .i64 s, v11, v12, v13, v14, v15, v16, v17, v18, v19, v20, v21, v22, v23, v24, v25, v26, v27, v28, v29, .int .i64 L, .map (some M), .int .i64 s, .int .i64 (zv s), .int .i64 (mn L (zv s)), v35, v36, .int .i64 s, v38, v39, v40, v41], defers := [] } (W.drew.setCell ⟨Bl, 0, none⟩ (.int .i64 (mn L (zv s)))) := by
    refine (e _ _ _ _).mpr (wpAnyIn_ready (rs := [5, 6]) (by kernel_rfl) (by simp) ?_)
    refine AllReadyIn.cons rfl (fun K hK => ?_) ?_
    · go_simp
      exact hK _ _ ((e _ _ _ _).mp s0123457a)
    refine AllReadyIn.cons rfl (fun K hK => ?_) ?_
    · go_simp
      exact hK _ _ ((e _ _ _ _).mp s0123467a)
    exact AllReadyIn.nil
  have s012347 : G 6 #[true, true, true, true, true, false, false, true, false, false, false, false] { tmps := #[v0, v1, v2, v3, v4, v5, v6, .pointer (some ⟨Bt, 0, none⟩), .pointer (some ⟨Bl, 0, none⟩), .pointer (some ⟨Bh, 0, none⟩), .int .i64 s, v11, v12, v13, v14, v15, v16, v17, v18, v19, v20, v21, v22, v23, v24, v25, v26, v27, v28, v29, .int .i64 L, .map (some M), .int .i64 s, .int .i64 (zv s), .int .i64 (mn L (zv s)), v35, v36, .int .i64 s, v38, v39, v40, v41], defers := [] } W.drew := by
    refine (e _ _ _ _).mpr (wpAnyIn_ready (rs := [5, 6, 10]) (by kernel_rfl) (by simp) ?_)
    refine AllReadyIn.cons rfl (fun K hK => ?_) ?_
    · go_simp
      exact hK _ _ ((e _ _ _ _).mp s0123457)
    refine AllReadyIn.cons rfl (fun K hK => ?_) ?_
    · go_simp
      exact hK _ _ ((e _ _ _ _).mp s0123467)
    refine AllReadyIn.cons rfl (fun K hK => ?_) ?_
    · go_simp
      exact hK _ _ ((e _ _ _ _).mp s012347a)
    exact AllReadyIn.nil
  have s012356789 : G 3 #[true, true, true, true, false, true, true, true, true, true, false, false] { tmps := #[v0, v1, v2, v3, v4, v5, v6, .pointer (some ⟨Bt, 0, none⟩), .pointer (some ⟨Bl, 0, none⟩), .pointer (some ⟨Bh, 0, none⟩), .int .i64 s, v11, v12, v13, v14, v15, v16, v17, v18, v19, v20, v21, v22, v23, v24, v25, v26, v27, v28, v29, .int .i64 L, .map (some M), .int .i64 s, .int .i64 (zv s), v34, .int .i64 H, .map (some M), .int .i64 s, .int .i64 (zv s), .int .i64 (mx H (zv s)), v40, v41], defers := [] } W.drew := by
    refine (e _ _ _ _).mpr (wpAnyIn_ready (rs := [4]) (by kernel_rfl) (by simp) ?_)
    refine AllReadyIn.cons rfl (fun K hK => ?_) ?_
    · go_simp
      exact hK _ _ ((e _ _ _ _).mp s0123456789)
    exact AllReadyIn.nil
  have s01235678 : G 4 #[true, true, true, true, false, true, true, true, true, false, false, false] { tmps := #[v0, v1, v2, v3, v4, v5, v6, .pointer (some ⟨Bt, 0, none⟩), .pointer (some ⟨Bl, 0, none⟩), .pointer (some ⟨Bh, 0, none⟩), .int .i64 s, v11, v12, v13, v14, v15, v16, v17, v18, v19, v20, v21, v22, v23, v24, v25, v26, v27, v28, v29, .int .i64 L, .map (some M), .int .i64 s, .int .i64 (zv s), v34, .int .i64 H, .map (some M), .int .i64 s, .int .i64 (zv s), v39, v40, v41], defers := [] } W.drew := by
    refine (e _ _ _ _).mpr (wpAnyIn_ready (rs := [4, 9]) (by kernel_rfl) (by simp) ?_)
    refine AllReadyIn.cons rfl (fun K hK => ?_) ?_
    · go_simp
      exact hK _ _ ((e _ _ _ _).mp s012345678)
    refine AllReadyIn.cons rfl (fun K hK => ?_) ?_
    · go_simp
      exact hK _ _ ((e _ _ _ _).mp s012356789)
    exact AllReadyIn.nil
  have s0123567 : G 5 #[true, true, true, true, false, true, true, true, false, false, false, false] { tmps := #[v0, v1, v2, v3, v4, v5, v6, .pointer (some ⟨Bt, 0, none⟩), .pointer (some ⟨Bl, 0, none⟩), .pointer (some ⟨Bh, 0, none⟩), .int .i64 s, v11, v12, v13, v14, v15, v16, v17, v18, v19, v20, v21, v22, v23, v24, v25, v26, v27, v28, v29, .int .i64 L, .map (some M), .int .i64 s, .int .i64 (zv s), v34, .int .i64 H, .map (some M), .int .i64 s, v38, v39, v40, v41], defers := [] } W.drew := by
    refine (e _ _ _ _).mpr (wpAnyIn_ready (rs := [4, 8]) (by kernel_rfl) (by simp) ?_)
    refine AllReadyIn.cons rfl (fun K hK => ?_) ?_
    · go_simp
      exact hK _ _ ((e _ _ _ _).mp s01234567)
    refine AllReadyIn.cons rfl (fun K hK => ?_) ?_
    · go_simp
      exact hK _ _ ((e _ _ _ _).mp s01235678)
    exact AllReadyIn.nil
  have s012357 : G 6 #[true, true, true, true, false, true, false, true, false, false, false, false] { tmps := #[v0, v1, v2, v3, v4, v5, v6, .pointer (some ⟨Bt, 0, none⟩), .pointer (some ⟨Bl, 0, none⟩), .pointer (some ⟨Bh, 0, none⟩), .int .i64 s, v11, v12, v13, v14, v15, v16, v17, v18, v19, v20, v21, v22, v23, v24, v25, v26, v27, v28, v29, .int .i64 L, .map (some M), .int .i64 s, .int .i64 (zv s), v34, .int .i64 H, v36, .int .i64 s, v38, v39, v40, v41], defers := [] } W.drew := by
    refine (e _ _ _ _).mpr (wpAnyIn_ready (rs := [4, 6]) (by kernel_rfl) (by simp) ?_)
    refine AllReadyIn.cons rfl (fun K hK => ?_) ?_
    · go_simp
      exact hK _ _ ((e _ _ _ _).mp s0123457)
    refine AllReadyIn.cons rfl (fun K hK => ?_) ?_
    · go_simp
      exact hK _ _ ((e _ _ _ _).mp s0123567)
    exact AllReadyIn.nil
  have s0123678 : G 5 #[true, true, true, true, false, false, true, true, true, false, false, false] { tmps := #[v0, v1, v2, v3, v4, v5, v6, .pointer (some ⟨Bt, 0, none⟩), .pointer (some ⟨Bl, 0, none⟩), .pointer (some ⟨Bh, 0, none⟩), .int .i64 s, v11, v12, v13, v14, v15, v16, v17, v18, v19, v20, v21, v22, v23, v24, v25, v26, v27, v28, v29, .int .i64 L, .map (some M), .int .i64 s, .int .i64 (zv s), v34, v35, .map (some M), .int .i64 s, .int .i64 (zv s), v39, v40, v41], defers := [] } W.drew := by
    refine (e _ _ _ _).mpr (wpAnyIn_ready (rs := [4, 5]) (by kernel_rfl) (by simp) ?_)
    refine AllReadyIn.cons rfl (fun K hK => ?_) ?_
    · go_simp
      exact hK _ _ ((e _ _ _ _).mp s01234678)
    refine AllReadyIn.cons rfl (fun K hK => ?_) ?_
    · go_simp
      exact hK _ _ ((e _ _ _ _).mp s01235678)
    exact AllReadyIn.nil
  have s012367 : G 6 #[true, true, true, true, false, false, true, true, false, false, false, false] { tmps := #[v0, v1, v2, v3, v4, v5, v6, .pointer (some ⟨Bt, 0, none⟩), .pointer (some ⟨Bl, 0, none⟩), .pointer (some ⟨Bh, 0, none⟩), .int .i64 s, v11, v12, v13, v14, v15, v16, v17, v18, v19, v20, v21, v22, v23, v24, v25, v26, v27, v28, v29, .int .i64 L, .map (some M), .int .i64 s, .int .i64 (zv s), v34, v35, .map (some M), .int .i64 s, v38, v39, v40, v41], defers := [] } W.drew := by
    refine (e _ _ _ _).mpr (wpAnyIn_ready (rs := [4, 5, 8]) (by kernel_rfl) (by simp) ?_)
    refine AllReadyIn.cons rfl (fun K hK => ?_) ?_
    · go_simp
      exact hK _ _ ((e _ _ _ _).mp s0123467)
    refine AllReadyIn.cons rfl (fun K hK => ?_) ?_
    · go_simp
      exact hK _ _ ((e _ _ _ _).mp s0123567)
    refine AllReadyIn.cons rfl (fun K hK => ?_) ?_
    · go_simp
      exact hK _ _ ((e _ _ _ _).mp s0123678)
    exact AllReadyIn.nil
  have s01237 : G 7 #[true, true, true, true, false, false, false, true, false, false, false, false] { tmps := #[v0, v1, v2, v3, v4, v5, v6, .pointer (some ⟨Bt, 0, none⟩), .pointer (some ⟨Bl, 0, none⟩), .pointer (some ⟨Bh, 0, none⟩), .int .i64 s, v11, v12, v13, v14, v15, v16, v17, v18, v19, v20, v21, v22, v23, v24, v25, v26, v27, v28, v29, .int .i64 L, .map (some M), .int .i64 s, .int .i64 (zv s), v34, v35, v36, .int .i64 s, v38, v39, v40, v41], defers := [] } W.drew := by
    refine (e _ _ _ _).mpr (wpAnyIn_ready (rs := [4, 5, 6]) (by kernel_rfl) (by simp) ?_)
    refine AllReadyIn.cons rfl (fun K hK => ?_) ?_
    · go_simp
      exact hK _ _ ((e _ _ _ _).mp s012347)
    refine AllReadyIn.cons rfl (fun K hK => ?_) ?_
    · go_simp
      exact hK _ _ ((e _ _ _ _).mp s012357)
    refine AllReadyIn.cons rfl (fun K hK => ?_) ?_
    · go_simp
      exact hK _ _ ((e _ _ _ _).mp s012367)
    exact AllReadyIn.nil
  have s01256789 : G 4 #[true, true, true, false, false, true, true, true, true, true, false, false] { tmps := #[v0, v1, v2, v3, v4, v5, v6, .pointer (some ⟨Bt, 0, none⟩), .pointer (some ⟨Bl, 0, none⟩), .pointer (some ⟨Bh, 0, none⟩), .int .i64 s, v11, v12, v13, v14, v15, v16, v17, v18, v19, v20, v21, v22, v23, v24, v25, v26, v27, v28, v29, .int .i64 L, .map (some M), .int .i64 s, v33, v34, .int .i64 H, .map (some M), .int .i64 s, .int .i64 (zv s), .int .i64 (mx H (zv s)), v40, v41], defers := [] } W.drew := by
    refine (e _ _ _ _).mpr (wpAnyIn_ready (rs := [3]) (by kernel_rfl) (by simp) ?_)
    refine AllReadyIn.cons rfl (fun K hK => ?_) ?_
    · go_simp
      exact hK _ _ ((e _ _ _ _).mp s012356789)
    exact AllReadyIn.nil
  have s0125678 : G 5 #[true, true, true, false, false, true, true, true, true, false, false, false] { tmps := #[v0, v1, v2, v3, v4, v5, v6, .pointer (some ⟨Bt, 0, none⟩), .pointer (some ⟨Bl, 0, none⟩), .pointer (some ⟨Bh, 0, none⟩), .int .i64 s, v11, v12, v13, v14, v15, v16, v17, v18, v19, v20, v21, v22, v23, v24, v25, v26, v27, v28, v29, .int .i64 L, .map (some M), .int .i64 s, v33, v34, .int .i64 H, .map (some M), .int .i64 s, .int .i64 (zv s), v39, v40, v41], defers := [] } W.drew := by
    refine (e _ _ _ _).mpr (wpAnyIn_ready (rs := [3, 9]) (by kernel_rfl) (by simp) ?_)
    refine AllReadyIn.cons rfl (fun K hK => ?_) ?_
    · go_simp
      exact hK _ _ ((e _ _ _ _).mp s01235678)
    refine AllReadyIn.cons rfl (fun K hK => ?_) ?_
    · go_simp
      exact hK _ _ ((e _ _ _ _).mp s01256789)
    exact AllReadyIn.nil
  have s012567 : G 6 #[true, true, true, false, false, true, true, true, false, false, false, false] { tmps := #[v0, v1, v2, v3, v4, v5, v6, .pointer (some ⟨Bt, 0, none⟩), .pointer (some ⟨Bl, 0, none⟩), .pointer (some ⟨Bh, 0, none⟩), .int .i64 s, v11, v12, v13, v14, v15, v16, v17, v18, v19, v20, v21, v22, v23, v24, v25, v26, v27, v28, v29, .int .i64 L, .map (some M), .int .i64 s, v33, v34, .int .i64 H, .map (some M), .int .i64 s, v38, v39, v40, v41], defers := [] } W.drew := by
    refine (e _ _ _ _).mpr (wpAnyIn_ready (rs := [3, 8]) (by kernel_rfl) (by simp) ?_)
    refine AllReadyIn.cons rfl (fun K hK => ?_) ?_
    · go_simp
      exact hK _ _ ((e _ _ _ _).mp s0123567)
    refine AllReadyIn.cons rfl (fun K hK => ?_) ?_
    · go_simp
      exact hK _ _ ((e _ _ _ _).mp s0125678)
    exact AllReadyIn.nil
  have s01257 : G 7 #[true, true, true, false, false, true, false, true, false, false, false, false] { tmps := #[v0, v1, v2, v3, v4, v5, v6, .pointer (some ⟨Bt, 0, none⟩), .pointer (some ⟨Bl, 0, none⟩), .pointer (some ⟨Bh, 0, none⟩), .int .i64 s, v11, v12, v13, v14, v15, v16, v17, v18, v19, v20, v21, v22, v23, v24, v25, v26, v27, v28, v29, .int .i64 L, .map (some M), .int .i64 s, v33, v34, .int .i64 H, v36, .int .i64 s, v38, v39, v40, v41], defers := [] } W.drew := by
    refine (e _ _ _ _).mpr (wpAnyIn_ready (rs := [3, 6]) (by kernel_rfl) (by simp) ?_)
    refine AllReadyIn.cons rfl (fun K hK => ?_) ?_
    · go_simp
      exact hK _ _ ((e _ _ _ _).mp s012357)
    refine AllReadyIn.cons rfl (fun K hK => ?_) ?_
    · go_simp
      exact hK _ _ ((e _ _ _ _).mp s012567)
    exact AllReadyIn.nil
  have s012678 : G 6 #[true, true, true, false, false, false, true, true, true, false, false, false] { tmps := #[v0, v1, v2, v3, v4, v5, v6, .pointer (some ⟨Bt, 0, none⟩), .pointer (some ⟨Bl, 0, none⟩), .pointer (some ⟨Bh, 0, none⟩), .int .i64 s, v11, v12, v13, v14, v15, v16, v17, v18, v19, v20, v21, v22, v23, v24, v25, v26, v27, v28, v29, .int .i64 L, .map (some M), .int .i64 s, v33, v34, v35, .map (some M), .int .i64 s, .int .i64 (zv s), v39, v40, v41], defers := [] } W.drew := by
    refine (e _ _ _ _).mpr (wpAnyIn_ready (rs := [3, 5]) (by kernel_rfl) (by simp) ?_)
    refine AllReadyIn.cons rfl (fun K hK => ?_) ?_
    · go_simp
      exact hK _ _ ((e _ _ _ _).mp s0123678)
    refine AllReadyIn.cons rfl (fun K hK => ?_) ?_
    · go_simp
      exact hK _ _ ((e _ _ _ _).mp s0125678)
    exact AllReadyIn.nil
  have s01267 : G 7 #[true, true, true, false, false, false, true, true, false, false, false, false] { tmps := #[v0, v1, v2, v3, v4, v5, v6, .pointer (some ⟨Bt, 0, none⟩), .pointer (some ⟨Bl, 0, none⟩), .pointer (some ⟨Bh, 0, none⟩), .int .i64 s, v11, v12, v13, v14, v15, v16, v17, v18, v19, v20, v21, v22, v23, v24, v25, v26, v27, v28, v29, .int .i64 L, .map (some M), .int .i64 s, v33, v34, v35, .map (some M), .int .i64 s, v38, v39, v40, v41], defers := [] } W.drew := by
    refine (e _ _ _ _).mpr (wpAnyIn_ready (rs := [3, 5, 8]) (by kernel_rfl) (by simp) ?_)
    refine AllReadyIn.cons rfl (fun K hK => ?_) ?_
    · go_simp
      exact hK _ _ ((e _ _ _ _).mp s012367)
    refine AllReadyIn.cons rfl (fun K hK => ?_) ?_
    · go_simp
      exact hK _ _ ((e _ _ _ _).mp s012567)
    refine AllReadyIn.cons rfl (fun K hK => ?_) ?_
    · go_simp
      exact hK _ _ ((e _ _ _ _).mp s012678)
    exact AllReadyIn.nil
  have s0127 : G 8 #[true, true, true, false, false, false, false, true, false, false, false, false] { tmps := #[v0, v1, v2, v3, v4, v5, v6, .pointer (some ⟨Bt, 0, none⟩), .pointer (some ⟨Bl, 0, none⟩), .pointer (some ⟨Bh, 0, none⟩), .int .i64 s, v11, v12, v13, v14, v15, v16, v17, v18, v19, v20, v21, v22, v23, v24, v25, v26, v27, v28, v29, .int .i64 L, .map (some M), .int .i64 s, v33, v34, v35, v36, .int .i64 s, v38, v39, v40, v41], defers := [] } W.drew := by
    refine (e _ _ _ _).mpr (wpAnyIn_ready (rs := [3, 5, 6]) (by kernel_rfl) (by simp) ?_)
    refine AllReadyIn.cons rfl (fun K hK => ?_) ?_
    · go_simp
      exact hK _ _ ((e _ _ _ _).mp s01237)
    refine AllReadyIn.cons rfl (fun K hK => ?_) ?_
    · go_simp
      exact hK _ _ ((e _ _ _ _).mp s01257)
    refine AllReadyIn.cons rfl (fun K hK => ?_) ?_
    · go_simp
      exact hK _ _ ((e _ _ _ _).mp s01267)
    exact AllReadyIn.nil
  have s0256789 : G 5 #[true, false, true, false, false, true, true, true, true, true, false, false] { tmps := #[v0, v1, v2, v3, v4, v5, v6, .pointer (some ⟨Bt, 0, none⟩), .pointer (some ⟨Bl, 0, none⟩), .pointer (some ⟨Bh, 0, none⟩), .int .i64 s, v11, v12, v13, v14, v15, v16, v17, v18, v19, v20, v21, v22, v23, v24, v25, v26, v27, v28, v29, .int .i64 L, v31, .int .i64 s, v33, v34, .int .i64 H, .map (some M), .int .i64 s, .int .i64 (zv s), .int .i64 (mx H (zv s)), v40, v41], defers := [] } W.drew := by
    refine (e _ _ _ _).mpr (wpAnyIn_ready (rs := [1]) (by kernel_rfl) (by simp) ?_)
    refine AllReadyIn.cons rfl (fun K hK => ?_) ?_
    · go_simp
      exact hK _ _ ((e _ _ _ _).mp s01256789)
    exact AllReadyIn.nil
  have s025678 : G 6 #[true, false, true, false, false, true, true, true, true, false, false, false] { tmps := #[v0, v1, v2, v3, v4, v5, v6, .pointer (some ⟨Bt, 0, none⟩), .pointer (some ⟨Bl, 0, none⟩), .pointer (some ⟨Bh, 0, none⟩), .int .i64 s, v11, v12, v13, v14, v15, v16, v17, v18, v19, v20, v21, v22, v23, v24, v25, v26, v27, v28, v29, .int .i64 L, v31, .int .i64 s, v33, v34, .int .i64 H, .map (some M), .int .i64 s, .int .i64 (zv s), v39, v40, v41], defers := [] } W.drew := by
    refine (e _ _ _ _).mpr (wpAnyIn_ready (rs := [1, 9]) (by kernel_rfl) (by simp) ?_)
    refine AllReadyIn.cons rfl (fun K hK => ?_) ?_
    · go_simp
      exact hK _ _ ((e _ _ _ _).mp s0125678)
    refine AllReadyIn.cons rfl (fun K hK => ?_) ?_
    · go_simp
      exact hK _ _ ((e _ _ _ _).mp s0256789)
    exact AllReadyIn.nil
  have s02567 : G 7 #[true, false, true, false, false, true, true, true, false, false, false, false] { tmps := #[v0, v1, v2, v3, v4, v5, v6, .pointer (some ⟨Bt, 0, none⟩), .pointer (some ⟨Bl, 0, none⟩), .pointer (some ⟨Bh, 0, none⟩), .int .i64 s, v11, v12, v13, v14, v15, v16, v17, v18, v19, v20, v21, v22, v23, v24, v25, v26, v27, v28, v29, .int .i64 L, v31, .int .i64 s, v33, v34, .int .i64 H, .map (some M), .int .i64 s, v38, v39, v40, v41], defers := [] } W.drew := by
    refine (e _ _ _ _).mpr (wpAnyIn_ready (rs := [1, 8]) (by kernel_rfl) (by simp) ?_)
    refine AllReadyIn.cons rfl (fun K hK => ?_) ?_
    · go_simp
      exact hK _ _ ((e _ _ _ _).mp s012567)
    refine AllReadyIn.cons rfl (fun K hK => ?_) ?_
    · go_simp
      exact hK _ _ ((e _ _ _ _).mp s025678)
    exact AllReadyIn.nil
  have s0257 : G 8 #[true, false, true, false, false, true, false, true, false, false, false, false] { tmps := #[v0, v1, v2, v3, v4, v5, v6, .pointer (some ⟨Bt, 0, none⟩), .pointer (some ⟨Bl, 0, none⟩), .pointer (some ⟨Bh, 0, none⟩), .int .i64 s, v11, v12, v13, v14, v15, v16, v17, v18, v19, v20, v21, v22, v23, v24, v25, v26, v27, v28, v29, .int .i64 L, v31, .int .i64 s, v33, v34, .int .i64 H, v36, .int .i64 s, v38, v39, v40, v41], defers := [] } W.drew := by
    refine (e _ _ _ _).mpr (wpAnyIn_ready (rs := [1, 6]) (by kernel_rfl) (by simp) ?_)
    refine AllReadyIn.cons rfl (fun K hK => ?_) ?_
    · go_simp
      exact hK _ _ ((e _ _ _ _).mp s01257)
    refine AllReadyIn.cons rfl (fun K hK => ?_) ?_
    · go_simp
      exact hK _ _ ((e _ _ _ _).mp s02567)
    exact AllReadyIn.nil
  have s02678 : G 7 #[true, false, true, false, false, false, true, true, true, false, false, false] { tmps := #[v0, v1, v2, v3, v4, v5, v6, .pointer (some ⟨Bt, 0, none⟩), .pointer (some ⟨Bl, 0, none⟩), .pointer (some ⟨Bh, 0, none⟩), .int .i64 s, v11, v12, v13, v14, v15, v16, v17, v18, v19, v20, v21, v22, v23, v24, v25, v26, v27, v28, v29, .int .i64 L, v31, .int .i64 s, v33, v34, v35, .map (some M), .int .i64 s, .int .i64 (zv s), v39, v40, v41], defers := [] } W.drew := by
    refine (e _ _ _ _).mpr (wpAnyIn_ready (rs := [1, 5]) (by kernel_rfl) (by simp) ?_)
    refine AllReadyIn.cons rfl (fun K hK => ?_) ?_
    · go_simp
      exact hK _ _ ((e _ _ _ _).mp s012678)
    refine AllReadyIn.cons rfl (fun K hK => ?_) ?_
    · go_simp
      exact hK _ _ ((e _ _ _ _).mp s025678)
    exact AllReadyIn.nil
  have s0267 : G 8 #[true, false, true, false, false, false, true, true, false, false, false, false] { tmps := #[v0, v1, v2, v3, v4, v5, v6, .pointer (some ⟨Bt, 0, none⟩), .pointer (some ⟨Bl, 0, none⟩), .pointer (some ⟨Bh, 0, none⟩), .int .i64 s, v11, v12, v13, v14, v15, v16, v17, v18, v19, v20, v21, v22, v23, v24, v25, v26, v27, v28, v29, .int .i64 L, v31, .int .i64 s, v33, v34, v35, .map (some M), .int .i64 s, v38, v39, v40, v41], defers := [] } W.drew := by
    refine (e _ _ _ _).mpr (wpAnyIn_ready (rs := [1, 5, 8]) (by kernel_rfl) (by simp) ?_)
    refine AllReadyIn.cons rfl (fun K hK => ?_) ?_
    · go_simp
      exact hK _ _ ((e _ _ _ _).mp s01267)
    refine AllReadyIn.cons rfl (fun K hK => ?_) ?_
    · go_simp
      exact hK _ _ ((e _ _ _ _).mp s02567)
    refine AllReadyIn.cons rfl (fun K hK => ?_) ?_
    · go_simp
      exact hK _ _ ((e _ _ _ _).mp s02678)
    exact AllReadyIn.nil
  have s027 : G 9 #[true, false, true, false, false, false, false, true, false, false, false, false] { tmps := #[v0, v1, v2, v3, v4, v5, v6, .pointer (some ⟨Bt, 0, none⟩), .pointer (some ⟨Bl, 0, none⟩), .pointer (some ⟨Bh, 0, none⟩), .int .i64 s, v11, v12, v13, v14, v15, v16, v17, v18, v19, v20, v21, v22, v23, v24, v25, v26, v27, v28, v29, .int .i64 L, v31, .int .i64 s, v33, v34, v35, v36, .int .i64 s, v38, v39, v40, v41], defers := [] } W.drew := by
    refine (e _ _ _ _).mpr (wpAnyIn_ready (rs := [1, 5, 6]) (by kernel_rfl) (by simp) ?_)
    refine AllReadyIn.cons rfl (fun K hK => ?_) ?_
    · go_simp
      exact hK _ _ ((e _ _ _ _).mp s0127)
    refine AllReadyIn.cons rfl (fun K hK => ?_) ?_
    · go_simp
      exact hK _ _ ((e _ _ _ _).mp s0257)
    refine AllReadyIn.cons rfl (fun K hK => ?_) ?_
    · go_simp
      exact hK _ _ ((e _ _ _ _).mp s0267)
    exact AllReadyIn.nil
  have s12356789 : G 4 #[false, true, true, true, false, true, true, true, true, true, false, false] { tmps := #[v0, v1, v2, v3, v4, v5, v6, .pointer (some ⟨Bt, 0, none⟩), .pointer (some ⟨Bl, 0, none⟩), .pointer (some ⟨Bh, 0, none⟩), .int .i64 s, v11, v12, v13, v14, v15, v16, v17, v18, v19, v20, v21, v22, v23, v24, v25, v26, v27, v28, v29, v30, .map (some M), .int .i64 s, .int .i64 (zv s), v34, .int .i64 H, .map (some M), .int .i64 s, .int .i64 (zv s), .int .i64 (mx H (zv s)), v40, v41], defers := [] } W.drew := by
    refine (e _ _ _ _).mpr (wpAnyIn_ready (rs := [0]) (by kernel_rfl) (by simp) ?_)
    refine AllReadyIn.cons rfl (fun K hK => ?_) ?_
    · go_simp
      exact hK _ _ ((e _ _ _ _).mp s012356789)
    exact AllReadyIn.nil
  have s1235678 : G 5 #[false, true, true, true, false, true, true, true, true, false, false, false] { tmps := #[v0, v1, v2, v3, v4, v5, v6, .pointer (some ⟨Bt, 0, none⟩), .pointer (some ⟨Bl, 0, none⟩), .pointer (some ⟨Bh, 0, none⟩), .int .i64 s, v11, v12, v13, v14, v15, v16, v17, v18, v19, v20, v21, v22, v23, v24, v25, v26, v27, v28, v29, v30, .map (some M), .int .i64 s, .int .i64 (zv s), v34, .int .i64 H, .map (some M), .int .i64 s, .int .i64 (zv s), v39, v40, v41], defers := [] } W.drew := by
    refine (e _ _ _ _).mpr (wpAnyIn_ready (rs := [0, 9]) (by kernel_rfl) (by simp) ?_)
    refine AllReadyIn.cons rfl (fun K hK => ?_) ?_
    · go_simp
      exact hK _ _ ((e _ _ _ _).mp s01235678)
    refine AllReadyIn.cons rfl (fun K hK => ?_) ?_
    · go_simp
      exact hK _ _ ((e _ _ _ _).mp s12356789)
    exact AllReadyIn.nil
  have s123567 : G 6 #[false, true, true, true, false, true, true, true, false, false, false, false] { tmps := #[v0, v1, v2, v3, v4, v5, v6, .pointer (some ⟨Bt, 0, none⟩), .pointer (some ⟨Bl, 0, none⟩), .pointer (some ⟨Bh, 0, none⟩), .int .i64 s, v11, v12, v13, v14, v15, v16, v17, v18, v19, v20, v21, v22, v23, v24, v25, v26, v27, v28, v29, v30, .map (some M), .int .i64 s, .int .i64 (zv s), v34, .int .i64 H, .map (some M), .int .i64 s, v38, v39, v40, v41], defers := [] } W.drew := by
    refine (e _ _ _ _).mpr (wpAnyIn_ready (rs := [0, 8]) (by kernel_rfl) (by simp) ?_)
    refine AllReadyIn.cons rfl (fun K hK => ?_) ?_
    · go_simp
      exact hK _ _ ((e _ _ _ _).mp s0123567)
    refine AllReadyIn.cons rfl (fun K hK => ?_) ?_
    · go_simp
      exact hK _ _ ((e _ _ _ _).mp s1235678)
    exact AllReadyIn.nil
  have s12357 : G 7 #[false, true, true, true, false, true, false, true, false, false, false, false] { tmps := #[v0, v1, v2, v3, v4, v5, v6, .pointer (some ⟨Bt, 0, none⟩), .pointer (some ⟨Bl, 0, none⟩), .pointer (some ⟨Bh, 0, none⟩), .int .i64 s, v11, v12, v13, v14, v15, v16, v17, v18, v19, v20, v21, v22, v23, v24, v25, v26, v27, v28, v29, v30, .map (some M), .int .i64 s, .int .i64 (zv s), v34, .int .i64 H, v36, .int .i64 s, v38, v39, v40, v41], defers := [] } W.drew := by
    refine (e _ _ _ _).mpr (wpAnyIn_ready (rs := [0, 6]) (by kernel_rfl) (by simp) ?_)
    refine AllReadyIn.cons rfl (fun K hK => ?_) ?_
    · go_simp
      exact hK _ _ ((e _ _ _ _).mp s012357)
    refine AllReadyIn.cons rfl (fun K hK => ?_) ?_
    · go_simp
      exact hK _ _ ((e _ _ _ _).mp s123567)
    exact AllReadyIn.nil
  have s123678 : G 6 #[false, true, true, true, false, false, true, true, true, false, false, false] { tmps := #[v0, v1, v2, v3, v4, v5, v6, .pointer (some ⟨Bt, 0, none⟩), .pointer (some ⟨Bl, 0, none⟩), .pointer (some ⟨Bh, 0, none⟩), .int .i64 s, v11, v12, v13, v14, v15, v16, v17, v18, v19, v20, v21, v22, v23, v24, v25, v26, v27, v28, v29, v30, .map (some M), .int .i64 s, .int .i64 (zv s), v34, v35, .map (some M), .int .i64 s, .int .i64 (zv s), v39, v40, v41], defers := [] } W.drew := by
    refine (e _ _ _ _).mpr (wpAnyIn_ready (rs := [0, 5]) (by kernel_rfl) (by simp) ?_)
    refine AllReadyIn.cons rfl (fun K hK => ?_) ?_
    · go_simp
      exact hK _ _ ((e _ _ _ _).mp s0123678)
    refine AllReadyIn.cons rfl (fun K hK => ?_) ?_
    · go_simp
      exact hK _ _ ((e _ _ _ _).mp s1235678)
    exact AllReadyIn.nil
  have s12367 : G 7 #[false, true, true, true, false, false, true, true, false, false, false, false] { tmps := #[v0, v1, v2, v3, v4, v5, v6, .pointer (some ⟨Bt, 0, none⟩), .pointer (some ⟨Bl, 0, none⟩), .pointer (some ⟨Bh, 0, none⟩), .int .i64 s, v11, v12, v13, v14, v15, v16, v17, v18, v19, v20, v21, v22, v23, v24, v25, v26, v27, v28, v29, v30, .map (some M), .int .i64 s, .int .i64 (zv s), v34, v35, .map (some M), .int .i64 s, v38, v39, v40, v41], defers := [] } W.drew := by
    refine (e _ _ _ _).mpr (wpAnyIn_ready (rs := [0, 5, 8]) (by kernel_rfl) (by simp) ?_)
    refine AllReadyIn.cons rfl (fun K hK => ?_) ?_
    · go_simp
      exact hK _ _ ((e _ _ _ _).mp s012367)
    refine AllReadyIn.cons rfl (fun K hK => ?_) ?_
    · go_simp
      exact hK _ _ ((e _ _ _ _).mp s123567)
    refine AllReadyIn.cons rfl (fun K hK => ?_) ?_
    · go_simp
      exact hK _ _ ((e _ _ _ _).mp s123678)
    exact AllReadyIn.nil
  have s1237 : G 8 #[false, true, true, true, false, false, false, true, false, false, false, false] { tmps := #[v0, v1, v2, v3, v4, v5, v6, .pointer (some ⟨Bt, 0, none⟩), .pointer (some ⟨Bl, 0, none⟩), .pointer (some ⟨Bh, 0, none⟩), .int .i64 s, v11, v12, v13, v14, v15, v16, v17, v18, v19, v20, v21, v22, v23, v24, v25, v26, v27, v28, v29, v30, .map (some M), .int .i64 s, .int .i64 (zv s), v34, v35, v36, .int .i64 s, v38, v39, v40, v41], defers := [] } W.drew := by
    refine (e _ _ _ _).mpr (wpAnyIn_ready (rs := [0, 5, 6]) (by kernel_rfl) (by simp) ?_)
    refine AllReadyIn.cons rfl (fun K hK => ?_) ?_
    · go_simp
      exact hK _ _ ((e _ _ _ _).mp s01237)
    refine AllReadyIn.cons rfl (fun K hK => ?_) ?_
    · go_simp
      exact hK _ _ ((e _ _ _ _).mp s12357)
    refine AllReadyIn.cons rfl (fun K hK => ?_) ?_
    · go_simp
      exact hK _ _ ((e _ _ _ _).mp s12367)
    exact AllReadyIn.nil
  have s1256789 : G 5 #[false, true, true, false, false, true, true, true, true, true, false, false] { tmps := #[v0, v1, v2, v3, v4, v5, v6, .pointer (some ⟨Bt, 0, none⟩), .pointer (some ⟨Bl, 0, none⟩), .pointer (some ⟨Bh, 0, none⟩), .int .i64 s, v11, v12, v13, v14, v15, v16, v17, v18, v19, v20, v21, v22, v23, v24, v25, v26, v27, v28, v29, v30, .map (some M), .int .i64 s, v33, v34, .int .i64 H, .map (some M), .int .i64 s, .int .i64 (zv s), .int .i64 (mx H (zv s)), v40, v41], defers := [] } W.drew := by
    refine (e _ _ _ _).mpr (wpAnyIn_ready (rs := [0, 3]) (by kernel_rfl) (by simp) ?_)
    refine AllReadyIn.cons rfl (fun K hK => ?_) ?_
    · go_simp
      exact hK _ _ ((e _ _ _ _).mp s01256789)
    refine AllReadyIn.cons rfl (fun K hK => ?_) ?_
    · go_simp
      exact hK _ _ ((e _ _ _ _).mp s12356789)
    exact AllReadyIn.nil
  have s125678 : G 6 #[false, true, true, false, false, true, true, true, true, false, false, false] { tmps := #[v0, v1, v2, v3, v4, v5, v6, .pointer (some ⟨Bt, 0, none⟩), .pointer (some ⟨Bl, 0, none⟩), .pointer (some ⟨Bh, 0, none⟩), .int .i64 s, v11, v12, v13, v14, v15, v16, v17, v18, v19, v20, v21, v22, v23, v24, v25, v26, v27, v28, v29, v30, .map (some M), .int .i64 s, v33, v34, .int .i64 H, .map (some M), .int .i64 s, .int .i64 (zv s), v39, v40, v41], defers := [] } W.drew := by
    refine (e _ _ _ _).mpr (wpAnyIn_ready (rs := [0, 3, 9]) (by kernel_rfl) (by simp) ?_)
    refine AllReadyIn.cons rfl (fun K hK => ?_) ?_
    · go_simp
      exact hK _ _ ((e _ _ _ _).mp s0125678)
    refine AllReadyIn.cons rfl (fun K hK => ?_) ?_
    · go_simp
      exact hK _ _ ((e _ _ _ _).mp s1235678)
    refine AllReadyIn.cons rfl (fun K hK => ?_) ?_
    · go_simp
      exact hK _ _ ((e _ _ _ _).mp s1256789)
    exact AllReadyIn.nil
  have s12567 : G 7 #[false, true, true, false, false, true, true, true, false, false, false, false] { tmps := #[v0, v1, v2, v3, v4, v5, v6, .pointer (some ⟨Bt, 0, none⟩), .pointer (some ⟨Bl, 0, none⟩), .pointer (some ⟨Bh, 0, none⟩), .int .i64 s, v11, v12, v13, v14, v15, v16, v17, v18, v19, v20, v21, v22, v23, v24, v25, v26, v27, v28, v29, v30, .map (some M), .int .i64 s, v33, v34, .int .i64 H, .map (some M), .int .i64 s, v38, v39, v40, v41], defers := [] } W.drew := by
    refine (e _ _ _ _).mpr (wpAnyIn_ready (rs := [0, 3, 8]) (by kernel_rfl) (by simp) ?_)
    refine AllReadyIn.cons rfl (fun K hK => ?_) ?_
    · go_simp
      exact hK _ _ ((e _ _ _ _).mp s012567)
    refine AllReadyIn.cons rfl (fun K hK => ?_) ?_
    · go_simp
      exact hK _ _ ((e _ _ _ _).mp s123567)
    refine AllReadyIn.cons rfl (fun K hK => ?_) ?_
    · go_simp
      exact hK _ _ ((e _ _ _ _).mp s125678)
    exact AllReadyIn.nil
  have s1257 : G 8 #[false, true, true, false, false, true, false, true, false, false, false, false] { tmps := #[v0, v1, v2, v3, v4, v5, v6, .pointer (some ⟨Bt, 0, none⟩), .pointer (some ⟨Bl, 0, none⟩), .pointer (some ⟨Bh, 0, none⟩), .int .i64 s, v11, v12, v13, v14, v15, v16, v17, v18, v19, v20, v21, v22, v23, v24, v25, v26, v27, v28, v29, v30, .map (some M), .int .i64 s, v33, v34, .int .i64 H, v36, .int .i64 s, v38, v39, v40, v41], defers := [] } W.drew := by
    refine (e _ _ _ _).mpr (wpAnyIn_ready (rs := [0, 3, 6]) (by kernel_rfl) (by simp) ?_)
    refine AllReadyIn.cons rfl (fun K hK => ?_) ?_
    · go_simp
      exact hK _ _ ((e _ _ _ _).mp s01257)
    refine AllReadyIn.cons rfl (fun K hK => ?_) ?_
    · go_simp
      exact hK _ _ ((e _ _ _ _).mp s12357)
    refine AllReadyIn.cons rfl (fun K hK => ?_) ?_
    · go_simp
      exact hK _ _ ((e _ _ _ _).mp s12567)
    exact AllReadyIn.nil
  have s12678 : G 7 #[false, true, true, false, false, false, true, true, true, false, false, false] { tmps := #[v0, v1, v2, v3, v4, v5, v6, .pointer (some ⟨Bt, 0, none⟩), .pointer (some ⟨Bl, 0, none⟩), .pointer (some ⟨Bh, 0, none⟩), .int .i64 s, v11, v12, v13, v14, v15, v16, v17, v18, v19, v20, v21, v22, v23, v24, v25, v26, v27, v28, v29, v30, .map (some M), .int .i64 s, v33, v34, v35, .map (some M), .int .i64 s, .int .i64 (zv s), v39, v40, v41], defers := [] } W.drew := by
    refine (e _ _ _ _).mpr (wpAnyIn_ready (rs := [0, 3, 5]) (by kernel_rfl) (by simp) ?_)
    refine AllReadyIn.cons rfl (fun K hK => ?_) ?_
    · go_simp
      exact hK _ _ ((e _ _ _ _).mp s012678)
    refine AllReadyIn.cons rfl (fun K hK => ?_) ?_
    · go_simp
      exact hK _ _ ((e _ _ _ _).mp s123678)
    refine AllReadyIn.cons rfl (fun K hK => ?_) ?_
    · go_simp
      exact hK _ _ ((e _ _ _ _).mp s125678)
    exact AllReadyIn.nil
  have s1267 : G 8 #[false, true, true, false, false, false, true, true, false, false, false, false] { tmps := #[v0, v1, v2, v3, v4, v5, v6, .pointer (some ⟨Bt, 0, none⟩), .pointer (some ⟨Bl, 0, none⟩), .pointer (some ⟨Bh, 0, none⟩), .int .i64 s, v11, v12, v13, v14, v15, v16, v17, v18, v19, v20, v21, v22, v23, v24, v25, v26, v27, v28, v29, v30, .map (some M), .int .i64 s, v33, v34, v35, .map (some M), .int .i64 s, v38, v39, v40, v41], defers := [] } W.drew := by
    refine (e _ _ _ _).mpr (wpAnyIn_ready (rs := [0, 3, 5, 8]) (by kernel_rfl) (by simp) ?_)
    refine AllReadyIn.cons rfl (fun K hK => ?_) ?_
    · go_simp
      exact hK _ _ ((e _ _ _ _).mp s01267)
    refine AllReadyIn.cons rfl (fun K hK => ?_) ?_
    · go_simp
      exact hK _ _ ((e _ _ _ _).mp s12367)
    refine AllReadyIn.cons rfl (fun K hK => ?_) ?_
    · go_simp
      exact hK _ _ ((e _ _ _ _).mp s12567)
    refine AllReadyIn.cons rfl (fun K hK => ?_) ?_
    · go_simp
      exact hK _ _ ((e _ _ _ _).mp s12678)
    exact AllReadyIn.nil
  have s127 : G 9 #[false, true, true, false, false, false, false, true, false, false, false, false] { tmps := #[v0, v1, v2, v3, v4, v5, v6, .pointer (some ⟨Bt, 0, none⟩), .pointer (some ⟨Bl, 0, none⟩), .pointer (some ⟨Bh, 0, none⟩), .int .i64 s, v11, v12, v13, v14, v15, v16, v17, v18, v19, v20, v21, v22, v23, v24, v25, v26, v27, v28, v29, v30, .map (some M), .int .i64 s, v33, v34, v35, v36, .int .i64 s, v38, v39, v40, v41], defers := [] } W.drew := by
    refine (e _ _ _ _).mpr (wpAnyIn_ready (rs := [0, 3, 5, 6]) (by kernel_rfl) (by simp) ?_)
    refine AllReadyIn.cons rfl (fun K hK => ?_) ?_
    · go_simp
      exact hK _ _ ((e _ _ _ _).mp s0127)
    refine AllReadyIn.cons rfl (fun K hK => ?_) ?_
    · go_simp
      exact hK _ _ ((e _ _ _ _).mp s1237)
    refine AllReadyIn.cons rfl (fun K hK => ?_) ?_
    · go_simp
      exact hK _ _ ((e _ _ _ _).mp s1257)
    refine AllReadyIn.cons rfl (fun K hK => ?_) ?_
    · go_simp
      exact hK _ _ ((e _ _ _ _).mp s1267)
    exact AllReadyIn.nil
  have s256789 : G 6 #[false, false, true, false, false, true, true, true, true, true, false, false] { tmps := #[v0, v1, v2, v3, v4, v5, v6, .pointer (some ⟨Bt, 0, none⟩), .pointer (some ⟨Bl, 0, none⟩), .pointer (some ⟨Bh, 0, none⟩), .int .i64 s, v11, v12, v13, v14, v15, v16, v17, v18, v19, v20, v21, v22, v23, v24, v25, v26, v27, v28, v29, v30, v31, .int .i64 s, v33, v34, .int .i64 H, .map (some M), .int .i64 s, .int .i64 (zv s), .int .i64 (mx H (zv s)), v40, v41], defers := [] } W.drew := by
    refine (e _ _ _ _).mpr (wpAnyIn_ready (rs := [0, 1]) (by kernel_rfl) (by simp) ?_)
    refine AllReadyIn.cons rfl (fun K hK => ?_) ?_
    · go_simp
      exact hK _ _ ((e _ _ _ _).mp s0256789)
    refine AllReadyIn.cons rfl (fun K hK => ?_) ?_
    · go_simp
      exact hK _ _ ((e _ _ _ _).mp s1256789)
    exact AllReadyIn.nil
  have s25678 : G 7 #[false, false, true, false, false, true, true, true, true, false, false, false] { tmps := #[v0, v1, v2, v3, v4, v5, v6, .pointer (some ⟨Bt, 0, none⟩), .pointer (some ⟨Bl, 0, none⟩), .pointer (some ⟨Bh, 0, none⟩), .int .i64 s, v11, v12, v13, v14, v15, v16, v17, v18, v19, v20, v21, v22, v23, v24, v25, v26, v27, v28, v29, v30, v31, .int .i64 s, v33, v34, .int .i64 H, .map (some M), .int .i64 s, .int .i64 (zv s), v39, v40, v41], defers := [] } W.drew := by
    refine (e _ _ _ _).mpr (wpAnyIn_ready (rs := [0, 1, 9]) (by kernel_rfl) (by simp) ?_)
    refine AllReadyIn.cons rfl (fun K hK => ?_) ?_
    · go_simp
      exact hK _ _ ((e _ _ _ _).mp s025678)
    refine AllReadyIn.cons rfl (fun K hK => ?_) ?_
    · go_simp
      exact hK _ _ ((e _ _ _ _).mp s125678)
    refine AllReadyIn.cons rfl (fun K hK => ?_) ?_
    · go_simp
      exact hK _ _ ((e _ _ _ _).mp s256789)
    exact AllReadyIn.nil
  have s2567 : G 8 #[false, false, true, false, false, true, true, true, false, false, false, false] { tmps := #[v0, v1, v2, v3, v4, v5, v6, .pointer (some ⟨Bt, 0, none⟩), .pointer (some ⟨Bl, 0, none⟩), .pointer (some ⟨Bh, 0, none⟩), .int .i64 s, v11, v12, v13, v14, v15, v16, v17, v18, v19, v20, v21, v22, v23, v24, v25, v26, v27, v28, v29, v30, v31, .int .i64 s, v33, v34, .int .i64 H, .map (some M), .int .i64 s, v38, v39, v40, v41], defers := [] } W.drew := by
    refine (e _ _ _ _).mpr (wpAnyIn_ready (rs := [0, 1, 8]) (by kernel_rfl) (by simp) ?_)
    refine AllReadyIn.cons rfl (fun K hK => ?_) ?_
    · go_simp
      exact hK _ _ ((e _ _ _ _).mp s02567)
    refine AllReadyIn.cons rfl (fun K hK => ?_) ?_
    · go_simp
      exact hK _ _ ((e _ _ _ _).mp s12567)
    refine AllReadyIn.cons rfl (fun K hK => ?_) ?_
    · go_simp
      exact hK _ _ ((e _ _ _ _).mp s25678)
    exact AllReadyIn.nil
  have s257 : G 9 #[false, false, true, false, false, true, false, true, false, false, false, false] { tmps := #[v0, v1, v2, v3, v4, v5, v6, .pointer (some ⟨Bt, 0, none⟩), .pointer (some ⟨Bl, 0, none⟩), .pointer (some ⟨Bh, 0, none⟩), .int .i64 s, v11, v12, v13, v14, v15, v16, v17, v18, v19, v20, v21, v22, v23, v24, v25, v26, v27, v28, v29, v30, v31, .int .i64 s, v33, v34, .int .i64 H, v36, .int .i64 s, v38, v39, v40, v41], defers := [] } W.drew := by
    refine (e _ _ _ _).mpr (wpAnyIn_ready (rs := [0, 1, 6]) (by kernel_rfl) (by simp) ?_)
    refine AllReadyIn.cons rfl (fun K hK => ?_) ?_
    · go_simp
      exact hK _ _ ((e _ _ _ _).mp s0257)
    refine AllReadyIn.cons rfl (fun K hK => ?_) ?_
    · go_simp
      exact hK _ _ ((e _ _ _ _).mp s1257)
    refine AllReadyIn.cons rfl (fun K hK => ?_) ?_
    · go_simp
      exact hK _ _ ((e _ _ _ _).mp s2567)
    exact AllReadyIn.nil
  have s2678 : G 8 #[false, false, true, false, false, false, true, true, true, false, false, false] { tmps := #[v0, v1, v2, v3, v4, v5, v6, .pointer (some ⟨Bt, 0, none⟩), .pointer (some ⟨Bl, 0, none⟩), .pointer (some ⟨Bh, 0, none⟩), .int .i64 s, v11, v12, v13, v14, v15, v16, v17, v18, v19, v20, v21, v22, v23, v24, v25, v26, v27, v28, v29, v30, v31, .int .i64 s, v33, v34, v35, .map (some M), .int .i64 s, .int .i64 (zv s), v39, v40, v41], defers := [] } W.drew := by
    refine (e _ _ _ _).mpr (wpAnyIn_ready (rs := [0, 1, 5]) (by kernel_rfl) (by simp) ?_)
    refine AllReadyIn.cons rfl (fun K hK => ?_) ?_
    · go_simp
      exact hK _ _ ((e _ _ _ _).mp s02678)
    refine AllReadyIn.cons rfl (fun K hK => ?_) ?_
    · go_simp
      exact hK _ _ ((e _ _ _ _).mp s12678)
    refine AllReadyIn.cons rfl (fun K hK => ?_) ?_
    · go_simp
      exact hK _ _ ((e _ _ _ _).mp s25678)
    exact AllReadyIn.nil
  have s267 : G 9 #[false, false, true, false, false, false, true, true, false, false, false, false] { tmps := #[v0, v1, v2, v3, v4, v5, v6, .pointer (some ⟨Bt, 0, none⟩), .pointer (some ⟨Bl, 0, none⟩), .pointer (some ⟨Bh, 0, none⟩), .int .i64 s, v11, v12, v13, v14, v15, v16, v17, v18, v19, v20, v21, v22, v23, v24, v25, v26, v27, v28, v29, v30, v31, .int .i64 s, v33, v34, v35, .map (some M), .int .i64 s, v38, v39, v40, v41], defers := [] } W.drew := by
    refine (e _ _ _ _).mpr (wpAnyIn_ready (rs := [0, 1, 5, 8]) (by kernel_rfl) (by simp) ?_)
    refine AllReadyIn.cons rfl (fun K hK => ?_) ?_
    · go_simp
      exact hK _ _ ((e _ _ _ _).mp s0267)
    refine AllReadyIn.cons rfl (fun K hK => ?_) ?_
    · go_simp
      exact hK _ _ ((e _ _ _ _).mp s1267)
    refine AllReadyIn.cons rfl (fun K hK => ?_) ?_
    · go_simp
      exact hK _ _ ((e _ _ _ _).mp s2567)
    refine AllReadyIn.cons rfl (fun K hK => ?_) ?_
    · go_simp
      exact hK _ _ ((e _ _ _ _).mp s2678)
    exact AllReadyIn.nil
  have s27 : G 10 #[false, false, true, false, false, false, false, true, false, false, false, false] { tmps := #[v0, v1, v2, v3, v4, v5, v6, .pointer (some ⟨Bt, 0, none⟩), .pointer (some ⟨Bl, 0, none⟩), .pointer (some ⟨Bh, 0, none⟩), .int .i64 s, v11, v12, v13, v14, v15, v16, v17, v18, v19, v20, v21, v22, v23, v24, v25, v26, v27, v28, v29, v30, v31, .int .i64 s, v33, v34, v35, v36, .int .i64 s, v38, v39, v40, v41], defers := [] } W.drew := by
    refine (e _ _ _ _).mpr (wpAnyIn_ready (rs := [0, 1, 5, 6]) (by kernel_rfl) (by simp) ?_)
    refine AllReadyIn.cons rfl (fun K hK => ?_) ?_
    · go_simp
      exact hK _ _ ((e _ _ _ _).mp s027)
    refine AllReadyIn.cons rfl (fun K hK => ?_) ?_
    · go_simp
      exact hK _ _ ((e _ _ _ _).mp s127)
    refine AllReadyIn.cons rfl (fun K hK => ?_) ?_
    · go_simp
      exact hK _ _ ((e _ _ _ _).mp s257)
    refine AllReadyIn.cons rfl (fun K hK => ?_) ?_
    · go_simp
      exact hK _ _ ((e _ _ _ _).mp s267)
    exact AllReadyIn.nil
  exact s27
end Go.Proofs.Ytdiijjdhofaodaa.G
end
section
namespace Go.Proofs.Ytdiijjdhofaodaa.G
open Go Go.RowKit Go.Shelf Go.Proofs.YtdiijjdhofaodaaW.PrintWords Go.Proofs.YtdiijjdhofaodaaW.PrintLast Go.Proofs.YtdiijjdhofaodaaW.PrintMore
attribute [local go_sem] Oper.semAt_some
attribute [local go_sem] max2_mx min2_mn max_two min_two
attribute [local go_sem] tab_lookup tabAt_drew_iff
def zonesPost (a b : Int) (w : World) (e : Ending) (w' : World) : Prop := e = .returned (.tuple #[.int .i64 (lowOf a b (zv a) (List.range (many a b))), .int .i64 (highOf a b (zv a) (List.range (many a b))), .int .i64 0]) ∧ Below w.heap.size w w'
set_option maxRecDepth 100000 in
set_option maxHeartbeats 2000000 in
theorem zones_rest (c : Code) (hc : zRest Try.f63 = some c) (w W : World) (a b : Int) (Bt Bl Bh M D : Nat) (hD : w.heap.size ≤ D) (hI : Zi w Bt Bl Bh M (lowOf a b (zv a) (List.range (many a b))) (highOf a b (zv a) (List.range (many a b))) W) (hK : W.heap[D]? = some (.deferred (some [])))
    (v0 v1 v2 v3 v4 v5 v6 v7 v10 v11 v12 v13 v14 v15 v16 v17 v18 v19 v20 v21 v22 v23 v24 v25 v26 v27 v28 v29 v30 v31 v32 v33 v34 v35 v36 v37 v38 v39 v40 v41 : Value) :
    c.wp Try.prog (bodyPostM Fence.wide 5 Try.prog Try.f63 (zonesPost a b w)) { tmps := #[v0, v1, v2, v3, v4, v5, v6, v7, .pointer (some ⟨Bl, 0, none⟩), .pointer (some ⟨Bh, 0, none⟩), v10, v11, v12, v13, v14, v15, v16, v17, v18, v19, v20, v21, v22, v23, v24, v25, v26, v27, v28, v29, v30, v31, v32, v33, v34, v35, v36, v37, v38, v39, v40, v41], defers := [{ target := .collected D, args := #[] }] } W := by
  obtain rfl := Option.some.inj ((rfl : zRest Try.f63 = some _).symm.trans hc)
  clear hc
  obtain ⟨hl, hh, ht, hT', hB⟩ := hI
  generalize hL : lowOf a b (zv a) (List.range (many a b)) = L at *
  generalize hH : highOf a b (zv a) (List.range (many a b)) = H at *
  have cl := hl.cell
  have ch := hh.cell
  go_wp2
  go_region
  all_goals go_wp2
  all_goals refine ⟨by simp, .inl ⟨_, _, rfl, run_takeDeferred hK, ?_⟩⟩
  all_goals exact ⟨_, results_tmp3 rfl _ _ _, by unfold zonesPost; rw [hL, hH]; exact ⟨rfl, hB.drew.trans (belowK_b (w := w) (Nat.le_refl _) W.drew D _ _ hD hK rfl rfl)⟩⟩
set_option maxRecDepth 100000 in
set_option maxHeartbeats 2000000 in
theorem zones_tail (c : Code) (hc : zTail Try.f63 = some c) (w W0 : World) (a b : Int) (ha0 : 0 ≤ a) (ha1 : a < 40) (hb0 : 0 ≤ b) (hb1 : b < 40) (Bt Bl Bh M : Nat) (n1 : Bl ≠ Bh) (n2 : Bt ≠ Bl) (n3 : Bt ≠ Bh) (n8 : w.heap.size ≤ Bl) (n9 : w.heap.size ≤ Bh) (hI : Zi w Bt Bl Bh M (zv a) (zv a) W0)
    (v2 v3 v4 v5 v6 v10 v11 v12 v13 v14 v15 v16 v17 v18 v19 v20 v21 v22 v23 v24 v25 v26 v27 v28 v29 v30 v31 v32 v33 v34 v35 v36 v37 v38 v39 v40 v41 : Value) :
    c.wp Try.prog (bodyPostM Fence.wide 5 Try.prog Try.f63 (zonesPost a b w)) { tmps := #[.int .i64 a, .int .i64 b, v2, v3, v4, v5, v6, .pointer (some ⟨Bt, 0, none⟩), .pointer (some ⟨Bl, 0, none⟩), .pointer (some ⟨Bh, 0, none⟩), v10, v11, v12, v13, v14, v15, v16, v17, v18, v19, v20, v21, v22, v23, v24, v25, v26, v27, v28, v29, v30, v31, v32, v33, v34, v35, v36, v37, v38, v39, v40, v41], defers := [] } W0 := by
  obtain rfl := Option.some.inj ((rfl : zTail Try.f63 = some _).symm.trans hc)
  clear hc
  go_wp2_with (go_at_call 67; refine (callsIn_wide.1 (way_in Fence.wide 1 trivial rfl a b _)).mono ?_; rintro e w2 ⟨rfl, rfl⟩)
  rename_i hk
  obtain ⟨hl, hh, ht, hT', hB⟩ := hI
  have p1 := hl.lt
  have p2 := hh.lt
  have p4 := hT'.lt
  have p5 := hB.size
  have ba : Boxed ((W0.alloc (.cells #[.int .i64 a] 3)).alloc (.cells #[.int .i64 b] 3)) W0.heap.size 3 (.int .i64 a) := (Boxed.new W0 _ _).alloc _
  have bb : Boxed ((W0.alloc (.cells #[.int .i64 a] 3)).alloc (.cells #[.int .i64 b] 3)) (W0.heap.size + 1) 3 (.int .i64 b) := by simpa using Boxed.new (W0.alloc (.cells #[.int .i64 a] 3)) 3 (.int .i64 b)
  refine (wpIn_wide (n := 5)).1 ?_
  refine' wpIn_rangeFunc_ownG (F := Fence.wide) (n := 5) rfl (by omega) (gf := 75) (lb := #[.pointer (some ⟨W0.heap.size, 0, none⟩), .pointer (some ⟨W0.heap.size + 1, 0, none⟩)]) rfl trivial (enters_of Try.func75 (by kernel_rfl) rfl)
    (way_stops Fence.wide 4 trivial rfl (by omega) W0.heap.size a b ha0 ha1 hb0 hb1 _ ba bb) (fun h k => h.tr k) (kab_put (by simp)) (Below.refl _ _) (fun _ => rfl)
    (fun pre W => Zi w Bt Bl Bh M (lowOf a b (zv a) pre) (highOf a b (zv a) pre) W)
    (fun _ _ _ => False) ?hI (fun _ _ _ _ _ hs _ _ => hs) ?h0 _ ?assign ?body ?done ?stop
  case assign =>
    intro l x W K hK
    gi_wp2
    exact hK
  case h0 => exact ⟨(hl.alloc _).alloc _, (hh.alloc _).alloc _, (ht.alloc _).alloc _, tabAt_alloc (tabAt_alloc hT' _) _, (hB.alloc p5 _).alloc (by simp; omega) _⟩
  case stop =>
    rintro D c pre W _ _ h _
    exact h.elim
  case hI =>
    refine OwnFrom.and ((boxed_own Bl _ _).from _) (OwnFrom.and ((boxed_own Bh _ _).from _) (OwnFrom.and ((boxed_own Bt _ _).from _) (OwnFrom.and ?_ (ownFrom_below (Nat.le_refl _) ?_))))
    · intro s W W' row hs hg hr
      refine tab_block hs fun o ho => hg.block _ hs.lt ?_
      intro e
      have h1 := (hr _ e.symm).1
      simp only [World.size_alloc] at h1
      omega
    · simp only [World.size_alloc]
      omega
  case body =>
    intro l pre x W hs hlt
    obtain ⟨s0, s1⟩ := stn_range a b x
    exact zones_body _ rfl l w _ Bt Bl Bh W0.heap.size M n1 n2 n3 (by omega) (by omega) (by omega) (by omega) n8 n9 _ _ _ (stn a b x) _ _ s0 s1 W hs (fun W' h => by simp only [lowOf_snoc, highOf_snoc]; exact h) _ _ _ _ _ _ _ _ _ _ _ _ _ _ _ _ _ _ _ _ _ _ _ _ _ _ _ _ _ _ _ _ _ _ _ _ _ _
  case done =>
    rintro D ys W hD rfl hs hK
    simp only [World.size_alloc] at hD
    exact hk _ _ (zones_rest _ rfl w W a b Bt Bl Bh M D (by omega) hs hK _ _ _ _ _ _ _ _ _ _ _ _ _ _ _ _ _ _ _ _ _ _ _ _ _ _ _ _ _ _ _ _ _ _ _ _ _ _ _ _ )
def World3 (w1 : World) (M : Nat) (z : Int) : World := (((w1.alloc (.cells #[.map (some M)] 74)).alloc (.cells #[.int .i64 z] 3)).alloc (.cells #[.int .i64 z] 3)).drew
theorem world3_facts {w w1 : World} (M : Nat) (z : Int) (hT : TabAt w1 M) (hb : Below w.heap.size w w1) :
    Boxed (World3 w1 M z) w1.heap.size 74 (.map (some M)) ∧ Boxed (World3 w1 M z) (w1.heap.size + 1) 3 (.int .i64 z) ∧ Boxed (World3 w1 M z) (w1.heap.size + 1 + 1) 3 (.int .i64 z) ∧ TabAt (World3 w1 M z) M ∧ Below w.heap.size w (World3 w1 M z) := by
  have hz := hb.size
  refine ⟨?_, ?_, ?_, ?_, ?_⟩
  · exact (((Boxed.new w1 _ _).alloc _).alloc _ : Boxed (((w1.alloc _).alloc _).alloc _) _ _ _)
  · exact ((by simpa using Boxed.new (w1.alloc (.cells #[.map (some M)] 74)) 3 (.int .i64 z) : Boxed _ (w1.heap.size + 1) _ _).alloc _ : Boxed (((w1.alloc _).alloc _).alloc _) _ _ _)
  · exact (by simpa using Boxed.new ((w1.alloc (.cells #[.map (some M)] 74)).alloc (.cells #[.int .i64 z] 3)) 3 (.int .i64 z) : Boxed (((w1.alloc _).alloc _).alloc _) (w1.heap.size + 1 + 1) _ _)
  · exact tabAt_drew (tabAt_alloc (tabAt_alloc (tabAt_alloc hT _) _) _)
  · exact (((hb.alloc (by simpa using hz) _).alloc (by simp; omega) _).alloc (by simp; omega) _).drew
set_option maxRecDepth 100000 in
set_option maxHeartbeats 2000000 in
theorem zones_any (a b : Int) (ha0 : 0 ≤ a) (ha1 : a < 40) (hb0 : 0 ≤ b) (hb1 : b < 40) (w : World) :
    Calls Try.prog 63 #[.int .i64 a, .int .i64 b] w (zonesPost a b w) := by
  refine callsIn_wide.1 (callsIn_of_wp_marks (F := Fence.wide) (n := 5) Try.func63 rfl trivial (wpIn_wide.2 ?_))
  simp only [Try.ntmps63, List.size_toArray, List.length_cons, List.length_nil, Nat.reduceAdd, Nat.reduceSub, Array.replicate_succ, Array.replicate_zero, List.push_toArray, List.append_toArray, List.nil_append, List.cons_append]
  go_wp2_with (first
    | (go_at_call 66; refine (table_any _).mono ?_; rintro e w1 ⟨rfl, ht, hb⟩; have hT : TabAt w1 w.heap.size := ht; clear ht; have hT1 : ∀ o, TabAt (w1.alloc o) w.heap.size := fun o => tabAt_alloc hT o; have hT2 : ∀ o o', TabAt ((w1.alloc o).alloc o') w.heap.size := fun o o' => tabAt_alloc (hT1 o) o'; have hT3 : ∀ o o' o'', TabAt (((w1.alloc o).alloc o').alloc o'') w.heap.size := fun o o' o'' => tabAt_alloc (hT2 o o') o'';  have hz := hb.size)
    | go_in)
  go_region
  all_goals clear hT1 hT2 hT3
  all_goals rename_i hk
  all_goals obtain ⟨bt, b1, b2, T0, hB0⟩ := world3_facts w.heap.size (zv a) hT hb
  · exact hk _ _ (zones_tail _ rfl w (World3 w1 w.heap.size (zv a)) a b ha0 ha1 hb0 hb1 w1.heap.size (w1.heap.size + 1) (w1.heap.size + 1 + 1) w.heap.size (by omega) (by omega) (by omega) (by omega) (by omega) ⟨b1, b2, bt, T0, hB0⟩ _ _ _ _ _ _ _ _ _ _ _ _ _ _ _ _ _ _ _ _ _ _ _ _ _ _ _ _ _ _ _ _ _ _ _ _ _ )
  · exact hk _ _ (zones_tail _ rfl w (World3 w1 w.heap.size (zv a)) a b ha0 ha1 hb0 hb1 w1.heap.size (w1.heap.size + 1 + 1) (w1.heap.size + 1) w.heap.size (by omega) (by omega) (by omega) (by omega) (by omega) ⟨b2, b1, bt, T0, hB0⟩ _ _ _ _ _ _ _ _ _ _ _ _ _ _ _ _ _ _ _ _ _ _ _ _ _ _ _ _ _ _ _ _ _ _ _ _ _ )
end Go.Proofs.Ytdiijjdhofaodaa.G
end
section
namespace Go.Proofs.Ytdiijjdhofaodaa.G
open Go Go.RowKit Go.Proofs.YtdiijjdhofaodaaW.PrintWords Go.Proofs.YtdiijjdhofaodaaW.PrintLast Go.Proofs.YtdiijjdhofaodaaW.PrintMore
def lowZ (a b : Int) : Int := if mn a b ≤ 20 ∧ 20 ≤ mx a b then 1 else mn (zv a) (zv b)
def highZ (a b : Int) : Int := mx (zv a) (zv b)
def zonesR (a b : Int) : Int × Int × Int := if 0 ≤ a ∧ a < 40 ∧ 0 ≤ b ∧ b < 40 then (lowZ a b, highZ a b, 0) else (0, 0, 1)
theorem fold_fin : ∀ a b : Fin 40, lowOf a.val b.val (zv a.val) (List.range (many a.val b.val)) = lowZ a.val b.val ∧ highOf a.val b.val (zv a.val) (List.range (many a.val b.val)) = highZ a.val b.val := by decide +kernel
theorem fold_int (a b : Int) (ha0 : 0 ≤ a) (ha1 : a < 40) (hb0 : 0 ≤ b) (hb1 : b < 40) : lowOf a b (zv a) (List.range (many a b)) = lowZ a b ∧ highOf a b (zv a) (List.range (many a b)) = highZ a b := by
  have h := fold_fin ⟨a.toNat, by omega⟩ ⟨b.toNat, by omega⟩
  have ea : ((a.toNat : Nat) : Int) = a := by omega
  have eb : ((b.toNat : Nat) : Int) = b := by omega
  simp only [ea, eb] at h
  exact h
theorem zones_out (a b : Int) (w : World) (h : ¬ (0 ≤ a ∧ a < 40 ∧ 0 ≤ b ∧ b < 40)) :
    Calls Try.prog 63 #[.int .i64 a, .int .i64 b] w fun e w' => e = .returned (.tuple #[.int .i64 0, .int .i64 0, .int .i64 1]) ∧ Below w.heap.size w w' := by
  rcases (by omega : a < 0 ∨ (0 ≤ a ∧ 40 ≤ a) ∨ (0 ≤ a ∧ a < 40 ∧ b < 0) ∨ (0 ≤ a ∧ a < 40 ∧ 0 ≤ b ∧ 40 ≤ b)) with h1 | ⟨h1, h2⟩ | ⟨h1, h2, h3⟩ | ⟨h1, h2, h3, h4⟩
  all_goals
    clear h
    go_enter Try.func63, Try.ntmps63
    go_wp2_with go_in
    all_goals first
      | (go_ret3; exact ⟨rfl, Below.refl _ _⟩)
      | (exfalso; simp only [Bool.not_eq_false', decide_eq_true_eq] at *; omega)
theorem zones_all (a b : Int) (w : World) :
    Calls Try.prog 63 #[.int .i64 a, .int .i64 b] w fun e w' => e = .returned (.tuple #[.int .i64 (zonesR a b).1, .int .i64 (zonesR a b).2.1, .int .i64 (zonesR a b).2.2]) ∧ Below w.heap.size w w' := by
  unfold zonesR
  by_cases h : 0 ≤ a ∧ a < 40 ∧ 0 ≤ b ∧ b < 40
  · rw [if_pos h]
    obtain ⟨h1, h2⟩ := fold_int a b h.1 h.2.1 h.2.2.1 h.2.2.2
    have hz := zones_any a b h.1 h.2.1 h.2.2.1 h.2.2.2 w
    refine hz.mono ?_
    rintro e w' ⟨rfl, hb⟩
    exact ⟨by rw [h1, h2], hb⟩
  · rw [if_neg h]
    exact zones_out a b w h
end Go.Proofs.Ytdiijjdhofaodaa.G
end
section
namespace Go.Proofs.Ytdiijjdhofaodaa.G
open Go Go.RowKit Go.Shelf Go.Proofs.YtdiijjdhofaodaaW.PrintWords Go.Proofs.YtdiijjdhofaodaaW.PrintLast Go.Proofs.YtdiijjdhofaodaaW.PrintMore
attribute [local go_sem] Oper.semAt_some
attribute [local go_sem] max2_mx min2_mn max_two min_two
attribute [local go_sem] tab_lookup
theorem tabAt_drew_iff2 {w : World} {b : Nat} : TabAt w.drew b ↔ TabAt w b := Iff.rfl
attribute [local go_sem] tabAt_drew_iff2
/-- The stations among the first of the line whose zone is a to b. -/
def stOf (a b : Int) (l : List Nat) : List Int := (l.map (stn 0 39)).filter fun s => decide (a ≤ zv s ∧ zv s ≤ b)
theorem stOf_hit (a b : Int) (l : List Nat) (j : Nat) (h : a ≤ zv (stn 0 39 j) ∧ zv (stn 0 39 j) ≤ b) : stOf a b (l ++ [j]) = stOf a b l ++ [stn 0 39 j] := by simp [stOf, h]
theorem stOf_miss (a b : Int) (l : List Nat) (j : Nat) (h : ¬ (a ≤ zv (stn 0 39 j) ∧ zv (stn 0 39 j) ≤ b)) : stOf a b (l ++ [j]) = stOf a b l := by
  simp only [stOf, List.map_append, List.filter_append, List.map_cons, List.map_nil, List.filter_cons, decide_eq_true_eq, if_neg h, List.filter_nil, List.append_nil]
theorem stOf_len (a b : Int) (l : List Nat) : (stOf a b l).length ≤ l.length := by
  have h := List.length_filter_le (fun s => decide (a ≤ zv s ∧ zv s ≤ b)) (l.map (stn 0 39))
  simpa [stOf] using h
theorem many_line : many 0 39 = 40 := by decide
def World4 (w1 : World) (M : Nat) : World := ((((w1.alloc (.cells #[.map (some M)] 74)).alloc (.cells #[.slice none 0 0] 35)).alloc (.cells #[.int .i64 0] 3)).alloc (.cells #[.int .i64 39] 3))
theorem world4_facts {w w1 : World} (M : Nat) (hT : TabAt w1 M) (hb : Below w.heap.size w w1) :
    Boxed (World4 w1 M) w1.heap.size 74 (.map (some M)) ∧ Boxed (World4 w1 M) (w1.heap.size + 1) 35 (.slice none 0 0) ∧
    Boxed (World4 w1 M) (w1.heap.size + 1 + 1) 3 (.int .i64 0) ∧ Boxed (World4 w1 M) (w1.heap.size + 1 + 1 + 1) 3 (.int .i64 39) ∧ TabAt (World4 w1 M) M ∧ Below w1.heap.size w1 (World4 w1 M) ∧ (World4 w1 M).heap.size = w1.heap.size + 4 := by
  have hz := hb.size
  refine ⟨?_, ?_, ?_, ?_, ?_, ?_, ?_⟩
  · exact (((Boxed.new _ _ _).alloc _).alloc _).alloc _
  · exact ((by simpa using Boxed.new (w1.alloc (.cells #[.map (some M)] 74)) 35 (.slice none 0 0) : Boxed _ (w1.heap.size + 1) _ _).alloc _).alloc _
  · exact (by simpa using Boxed.new ((w1.alloc (.cells #[.map (some M)] 74)).alloc (.cells #[.slice none 0 0] 35)) 3 (.int .i64 0) : Boxed _ (w1.heap.size + 1 + 1) _ _).alloc _
  · exact (by simpa using Boxed.new (((w1.alloc (.cells #[.map (some M)] 74)).alloc (.cells #[.slice none 0 0] 35)).alloc (.cells #[.int .i64 0] 3)) 3 (.int .i64 39) : Boxed _ (w1.heap.size + 1 + 1 + 1) _ _)
  · exact tabAt_alloc (tabAt_alloc (tabAt_alloc (tabAt_alloc hT _) _) _) _
  · exact (((((Below.refl _ w1).alloc (Nat.le_refl _) _).alloc (by simp) _).alloc (by simp; omega) _).alloc (by simp; omega) _)
  · simp [World4]
theorem info_int : (Try.prog.info? 3).map (fun i => (i.zero, i.size, i.bytes)) = some (some (.int .i64 0), 1, 8) := by kernel_rfl
set_option maxRecDepth 100000 in
set_option maxHeartbeats 4000000 in
theorem stations_in (a b : Int) (ha0 : 1 ≤ a) (ha1 : a ≤ b) (hb1 : b ≤ 6) (w : World) :
    Calls Try.prog 34 #[.int .i64 a, .int .i64 b] w fun e w' => ∃ v, e = .returned (.tuple #[v, .int .i64 0]) ∧ w'.ownsRow w.heap.size 3 1 v (stOf a b (List.range 40)).length ((stOf a b (List.range 40)).map (Value.int .i64)) ∧ Below w.heap.size w w' := by
  obtain ⟨i0, hi, hz0, hz1, hz2⟩ := info_parts info_int
  refine callsIn_wide.1 (callsIn_of_wp_marks (F := Fence.wide) (n := 5) Try.func34 rfl trivial (wpIn_wide.2 ?_))
  simp only [Try.ntmps34, List.size_toArray, List.length_cons, List.length_nil, Nat.reduceAdd, Nat.reduceSub, Array.replicate_succ, Array.replicate_zero, List.push_toArray, List.append_toArray, List.nil_append, List.cons_append]
  go_wp2_with (first
    | (go_at_call 66; refine (table_any _).mono ?_; rintro e w1 ⟨rfl, ht, hb⟩; have hT : TabAt w1 _ := ht; clear ht; have hz := hb.size)
    | (go_at_call 67; refine (callsIn_wide.1 (way_in Fence.wide 1 trivial rfl 0 39 _)).mono ?_; rintro e w2 ⟨rfl, rfl⟩))
  have pA : Boxed w1 w.heap.size 3 (.int .i64 a) := (hb.block _ (by simp only [World.size_alloc]; omega)).trans ((Boxed.new w 3 (.int .i64 a)).alloc _)
  have pB : Boxed w1 (w.heap.size + 1) 3 (.int .i64 b) := (hb.block _ (by simp only [World.size_alloc]; omega)).trans (by simpa using Boxed.new (w.alloc (.cells #[.int .i64 a] 3)) 3 (.int .i64 b) : Boxed _ (w.heap.size + 1) _ _)
  have hb' : Below w.heap.size w w1 := (((Below.refl _ w).alloc (Nat.le_refl _) (.cells #[.int .i64 a] 3)).alloc (by simp) (.cells #[.int .i64 b] 3)).trans (hb.mono (by simp; omega))
  simp only [World.size_alloc] at hT hz
  clear hb
  obtain ⟨bt, bo, ba, bb, T0, hB0, hN⟩ := world4_facts (w.heap.size + 1 + 1) hT hb'
  change Code.wp _ _ _ _ (World4 w1 (w.heap.size + 1 + 1))
  have qA : Boxed (World4 w1 (w.heap.size + 1 + 1)) w.heap.size 3 (.int .i64 a) := (hB0.block _ (by omega)).trans pA
  have qB : Boxed (World4 w1 (w.heap.size + 1 + 1)) (w.heap.size + 1) 3 (.int .i64 b) := (hB0.block _ (by omega)).trans pB
  have hB1 : Below w.heap.size w (World4 w1 (w.heap.size + 1 + 1)) := hb'.trans (hB0.mono (by omega))
  clear hT hb' pA pB hB0
  generalize World4 w1 (w.heap.size + 1 + 1) = W0 at *
  generalize w1.heap.size = Bt at *
  refine (wpIn_wide (n := 5)).1 ?_
  refine' wpIn_rangeFunc_ownG (F := Fence.wide) (n := 5) rfl (by omega) (gf := 75) (lb := #[.pointer (some ⟨Bt + 1 + 1, 0, none⟩), .pointer (some ⟨Bt + 1 + 1 + 1, 0, none⟩)]) rfl trivial (enters_of Try.func75 (by kernel_rfl) rfl)
    (way_stops Fence.wide 4 trivial rfl (by omega) (Bt + 1 + 1) 0 39 (by omega) (by omega) (by omega) (by omega) _ ba bb) (fun h k => h.tr k) (kab_put (by omega)) (Below.refl _ _) (fun _ => rfl)
    (fun pre W => (∃ v, Boxed W (Bt + 1) 35 v ∧ W.ownsRow W0.heap.size 3 1 v (stOf a b pre).length ((stOf a b pre).map (Value.int .i64)) ∧ True) ∧ Boxed W w.heap.size 3 (.int .i64 a) ∧ Boxed W (w.heap.size + 1) 3 (.int .i64 b) ∧ Boxed W Bt 74 (.map (some (w.heap.size + 1 + 1))) ∧ TabAt W (w.heap.size + 1 + 1) ∧ Below w.heap.size w W ∧ W0.heap.size ≤ W.heap.size)
    (fun _ _ _ => False) ?hI (fun _ _ _ _ _ hs _ _ => hs) ?h0 _ ?assign ?body ?done ?stop
  case assign =>
    intro l x W K hK
    gi_wp2
    exact hK
  case h0 => exact ⟨⟨_, bo, World.ownsRow_nil _ _ _ _, trivial⟩, qA, qB, bt, T0, hB1, Nat.le_refl _⟩
  case stop =>
    rintro D c pre W _ _ h _
    exact h.elim
  case hI =>
    refine OwnFrom.and (Own.from (holdsRow_own W0.heap.size (Bt + 1) 35 3 1 (fun pre => (stOf a b pre).length) (fun pre => (stOf a b pre).map (Value.int .i64)) (fun _ _ => True)) _) (OwnFrom.and ((boxed_own _ _ _).from _) (OwnFrom.and ((boxed_own _ _ _).from _) (OwnFrom.and ((boxed_own _ _ _).from _) (OwnFrom.and ?_ (OwnFrom.and (ownFrom_below (Nat.le_refl _) ?_) ?_)))))
    · intro s W W' row hs hg hr
      refine tab_block hs fun o ho => hg.block _ hs.lt ?_
      intro e
      have h1 := (hr _ e.symm).1
      have h2 := T0.lt
      omega
    · exact hB1.size
    · intro s W W' row hs hg hr
      exact Nat.le_trans hs hg.size
  case body =>
    rintro l pre x W ⟨⟨v, hv, hrow, -⟩, hA, hBB, ht, hT', hB, hNN⟩ hlt
    obtain ⟨s0, s1⟩ := stn_range 0 39 x
    have hvc := hv.cell
    have hAc := hA.cell
    have hBc := hBB.cell
    have htc := ht.cell
    have hpl := stOf_len a b pre
    rw [many_line] at hlt
    gi_wp2_with (gi_at_builtin; refine wpListIn_append_own _ rfl _ _ 35 rfl W0.heap.size 3 i0 (.int .i64 0) 1 8 Try.underlying35 hi hz0 hz1 hz2 rfl (by decide) _ _ _ rfl (hrow.alloc _) ⟨W.heap.size, 0, none⟩ 1 1 [.int .i64 (stn 0 39 x)] rfl rfl (cell_one_new _ _ _) (by simp [Value.oneCell']) (by unfold maxLen; omega) (by omega) (by simp; omega) ?_; intro v' w2 hown' hgrow _; obtain ⟨g', cap', rfl⟩ := ownsRow_succ hown'; obtain ⟨hv1, hv2, hr2, hk2, hb2⟩ := hv.appended (by decide) (own_weaken hrow (by omega : Bt ≤ W0.heap.size)) (by omega) (by omega) (own_weaken hown' (by omega : Bt ≤ W0.heap.size)) hgrow; have hc1 := hv1.cell; have hf1 := hv1.frozen)
    · have hgrow' : (W.alloc (.cells #[.int .i64 (stn 0 39 x)] 3)).grownBy w2 v.ownBlock := hgrow
      have hblk : ∀ j, j < W0.heap.size → j ≠ Bt + 1 → (w2.setCell { block := Bt + 1, off := 0 } (Value.slice (some { block := g', off := 0 }) ((stOf a b pre).length + 1) cap')).heap[j]? = W.heap[j]? := fun j hj hne =>
        (Below.heap_setCell _ _ _ _ hne).trans ((hgrow'.block j (by simp only [World.size_alloc]; omega) (fun e => by have := own_base hrow j e.symm; omega)).trans (Below.heap_alloc _ _ _ (by omega)))
      have own2 := own_move hown' (w1 := w2.setCell { block := Bt + 1, off := 0 } (Value.slice (some { block := g', off := 0 }) ((stOf a b pre).length + 1) cap')) (fun k hk => Below.heap_setCell _ _ _ _ (by have := own_base hown' k hk; show k ≠ Bt + 1; omega))
      exact ⟨hk2.from _, ⟨hblk _ (by omega) (by omega), hblk _ (by omega) (by omega)⟩, ⟨_, hv2, by rw [stOf_hit a b pre x ⟨by assumption, by assumption⟩]; simpa using own2, trivial⟩, (hblk _ (by omega) (by omega)).trans hA, (hblk _ (by omega) (by omega)).trans hBB, (hblk _ (by omega) (by omega)).trans ht, tab_block hT' (fun _ _ => hblk _ (by omega) (by omega)), hB.trans (hb2.mono (by omega)), Nat.le_trans hNN hb2.size⟩
    · exact ⟨KeepsFrom.refl _ _, ⟨rfl, rfl⟩, ⟨v, hv, by rw [stOf_miss a b pre x (by omega)]; exact hrow, trivial⟩, hA, hBB, ht, hT', hB, hNN⟩
    · rw [← stOf_miss a b pre x (by omega), hN] at hrow
      rw [hN] at hNN
      obtain ⟨r1, r2⟩ := hrow
      exact ⟨KeepsFrom.refl _ _, ⟨rfl, rfl⟩, ⟨v, hv, r1, r2⟩, hA, hBB, ht, hT', hB, hNN⟩
  case done =>
    rintro D ys W hD rfl ⟨⟨v, hv, hrow, -⟩, hA, hBB, ht, hT', hB, hNN⟩ hK
    have hvc := hv.cell
    rw [many_line] at hrow
    go_wp2
    refine ⟨by simp, .inl ⟨_, _, rfl, run_takeDeferred hK, ?_⟩⟩
    exact ⟨_, results_tmp2 rfl _ _ _, v, rfl, own_weaken (ownsRow_putObj hrow _ hK rfl) hB1.size, hB.trans (belowK_b (w := w) (Nat.le_refl _) W D _ _ (by have := hB1.size; omega) hK rfl rfl)⟩
end Go.Proofs.Ytdiijjdhofaodaa.G
end
section
namespace Go.Proofs.Ytdiijjdhofaodaa.G
open Go Go.RowKit Go.Proofs.YtdiijjdhofaodaaW.PrintWords Go.Proofs.YtdiijjdhofaodaaW.PrintLast Go.Proofs.YtdiijjdhofaodaaW.PrintMore
def stationsR (a b : Int) : List Int × Int := if 1 ≤ a ∧ a ≤ b ∧ b ≤ 6 then (stOf a b (List.range 40), 0) else ([], 1)
theorem reps_ints (w : World) (base : Nat) (ok : Nat → Prop) : ∀ xs : List Int, Reps ((Kd.int .i64).M w base ok) 1 xs (xs.map (Value.int .i64))
  | [] => Reps.none _ _
  | x :: xs => Reps.one (show (Kd.int .i64).M w base ok x [Value.int .i64 x] from rfl) (reps_ints w base ok xs)
theorem stations_out (a b : Int) (w : World) (h : ¬ (1 ≤ a ∧ a ≤ b ∧ b ≤ 6)) :
    Calls Try.prog 34 #[.int .i64 a, .int .i64 b] w fun e w' => e = .returned (.tuple #[.slice none 0 0, .int .i64 1]) ∧ Below w.heap.size w w' := by
  rcases (by omega : a < 1 ∨ (1 ≤ a ∧ b < a) ∨ (1 ≤ a ∧ a ≤ b ∧ 6 < b)) with h1 | ⟨h1, h2⟩ | ⟨h1, h2, h3⟩
  all_goals
    clear h
    go_enter Try.func34, Try.ntmps34
    go_wp2
    go_ret2
    exact ⟨rfl, ((Below.refl _ w).alloc (Nat.le_refl _) _).alloc (by simp) _⟩
theorem stations_all (a b : Int) (w : World) :
    Calls Try.prog 34 #[.int .i64 a, .int .i64 b] w fun e w' => ∃ v0_ : Value, e = .returned (.tuple #[v0_, .int .i64 (stationsR a b).2]) ∧ Kd.R (Kd.int .i64) 3 w' w.heap.size (fun _ => True) v0_ (stationsR a b).1 ∧ Below w.heap.size w w' := by
  unfold stationsR
  by_cases h : 1 ≤ a ∧ a ≤ b ∧ b ≤ 6
  · rw [if_pos h]
    refine (stations_in a b h.1 h.2.1 h.2.2 w).mono ?_
    rintro e w' ⟨v, rfl, hown, hb⟩
    exact ⟨v, rfl, ⟨fun _ _ => trivial, _, hown, reps_ints _ _ _ _⟩, hb⟩
  · rw [if_neg h]
    refine (stations_out a b w h).mono ?_
    rintro e w' ⟨rfl, hb⟩
    exact ⟨_, rfl, Kd.R_nil _ _ _ _ _, hb⟩
end Go.Proofs.Ytdiijjdhofaodaa.G
end
section
namespace Go.Proofs.Ytdiijjdhofaodaa.G
open Go Go.RowKit Go.Proofs.YtdiijjdhofaodaaW.PrintWords Go.Proofs.YtdiijjdhofaodaaW.PrintLast Go.Proofs.YtdiijjdhofaodaaW.PrintMore
theorem named_0 (w : World) : Calls Try.prog 73 #[.int .i64 0] w fun e w' => e = .returned (.tuple #[.agg #[.func (.func 76) #[] #[]], .bool true]) ∧ Below w.heap.size w w' := by
  go_enter Try.func73, Try.ntmps73
  go_wp2
  exact bodyPost_ret (v := .tuple #[.agg #[.func (.func 76) #[] #[]], .bool true]) (by simp [results, Try.results73, go_sem]) rfl ⟨rfl, ((Below.refl _ _).alloc (Nat.le_refl _) _).alloc (by simp) _⟩
theorem named_no (n : Int) (w : World) (h0 : (n == 0) = false) (h1 : (n == 1) = false) (h2 : (n == 2) = false) (h3 : (n == 3) = false) :
    Calls Try.prog 73 #[.int .i64 n] w fun e w' => e = .returned (.tuple #[.agg #[.nilFunc], .bool false]) ∧ Below w.heap.size w w' := by
  go_enter Try.func73, Try.ntmps73
  go_wp2
  exact bodyPost_ret (v := .tuple #[.agg #[.nilFunc], .bool false]) (by simp [results, Try.results73, go_sem]) rfl ⟨rfl, ((Below.refl _ _).alloc (Nat.le_refl _) _).alloc (by simp) _⟩
theorem named_1 (w : World) : Calls Try.prog 73 #[.int .i64 1] w fun e w' => ∃ b, e = .returned (.tuple #[.agg #[.func (.func 77) #[] #[.pointer (some ⟨b, 0, none⟩)]], .bool true]) ∧ w'.cell? ⟨b, 0, none⟩ = some (.int .i64 3) ∧ b < w'.heap.size ∧ Below w.heap.size w w' := by
  go_enter Try.func73, Try.ntmps73
  go_wp2
  exact bodyPost_ret (v := .tuple #[.agg #[.func (.func 77) #[] #[.pointer (some ⟨w.heap.size + 1, 0, none⟩)]], .bool true]) (by simp [results, Try.results73, go_sem]) rfl ⟨w.heap.size + 1, rfl, by simp, by simp, ((Below.refl _ _).alloc (Nat.le_refl _) _).alloc (by simp) _⟩
theorem named_2 (w : World) : Calls Try.prog 73 #[.int .i64 2] w fun e w' => ∃ b, e = .returned (.tuple #[.agg #[.func (.func 77) #[] #[.pointer (some ⟨b, 0, none⟩)]], .bool true]) ∧ w'.cell? ⟨b, 0, none⟩ = some (.int .i64 2) ∧ b < w'.heap.size ∧ Below w.heap.size w w' := by
  go_enter Try.func73, Try.ntmps73
  go_wp2
  exact bodyPost_ret (v := .tuple #[.agg #[.func (.func 77) #[] #[.pointer (some ⟨w.heap.size + 1, 0, none⟩)]], .bool true]) (by simp [results, Try.results73, go_sem]) rfl ⟨w.heap.size + 1, rfl, by simp, by simp, ((Below.refl _ _).alloc (Nat.le_refl _) _).alloc (by simp) _⟩
theorem named_3 (w : World) : Calls Try.prog 73 #[.int .i64 3] w fun e w' => ∃ b, e = .returned (.tuple #[.agg #[.func (.func 77) #[] #[.pointer (some ⟨b, 0, none⟩)]], .bool true]) ∧ w'.cell? ⟨b, 0, none⟩ = some (.int .i64 10) ∧ b < w'.heap.size ∧ Below w.heap.size w w' := by
  go_enter Try.func73, Try.ntmps73
  go_wp2
  exact bodyPost_ret (v := .tuple #[.agg #[.func (.func 77) #[] #[.pointer (some ⟨w.heap.size + 1, 0, none⟩)]], .bool true]) (by simp [results, Try.results73, go_sem]) rfl ⟨w.heap.size + 1, rfl, by simp, by simp, ((Below.refl _ _).alloc (Nat.le_refl _) _).alloc (by simp) _⟩
theorem off_any (b : Nat) (p k : Int) (w : World) (hc : w.cell? ⟨b, 0, none⟩ = some (.int .i64 k)) (h0 : 0 ≤ p) (h1 : p ≤ 1000000000) (hk : 1 ≤ k) (hk2 : k ≤ 10) :
    Calls Try.prog 77 #[.int .i64 p, .pointer (some ⟨b, 0, none⟩)] w fun e w' => e = .returned (.int .i64 (p / k)) ∧ w = w' := by
  have hz : (k == 0) = false := beq_eq_false_iff_ne.2 (by omega)
  go_enter Try.func77, Try.ntmps77
  go_wp2
  go_ret
  exact ⟨rfl, rfl⟩
theorem mx_v (a b : Int) : mx a b = if a < b then b else a := rfl
theorem mn_v (a b : Int) : mn a b = if b < a then b else a := rfl
/-- What a price is with a railcard. -/
def cutR (p n : Int) : Int × Int :=
  if p < 0 ∨ p > 1000000000 ∨ n < 0 ∨ n > 3 then (0, 1)
  else (mx (p - (if n = 0 then 0 else if n = 1 then p / 3 else if n = 2 then p / 2 else p / 10)) (mn p 100), 0)
set_option maxRecDepth 100000 in
theorem cut_0 (p : Int) (w : World) (h0 : 0 ≤ p) (h1 : p ≤ 1000000000) :
    Calls Try.prog 65 #[.int .i64 p, .int .i64 0] w fun e w' => e = .returned (.tuple #[.int .i64 (mx (p - 0) (mn p 100)), .int .i64 0]) ∧ Below w.heap.size w w' := by
  by_cases c1 : 100 < p
  · rw [show mx (p - 0) (mn p 100) = p by rw [mn_v, if_pos c1, mx_v, if_neg (by omega)]; omega]
    go_enter Try.func65, Try.ntmps65
    go_wp2_with (first | (go_at_call 73; refine (named_0 _).mono ?_; rintro e w1 ⟨rfl, hb⟩; have hz := hb.size) | go_in)
    go_ret2
    exact ⟨rfl, hb.alloc hb.size _⟩
  · rw [show mx (p - 0) (mn p 100) = p by rw [mn_v, if_neg c1, mx_v, if_neg (by omega)]; omega]
    go_enter Try.func65, Try.ntmps65
    go_wp2_with (first | (go_at_call 73; refine (named_0 _).mono ?_; rintro e w1 ⟨rfl, hb⟩; have hz := hb.size) | go_in)
    go_ret2
    exact ⟨rfl, hb.alloc hb.size _⟩
set_option maxRecDepth 100000 in
theorem cut_1 (p : Int) (w : World) (h0 : 0 ≤ p) (h1 : p ≤ 1000000000) :
    Calls Try.prog 65 #[.int .i64 p, .int .i64 1] w fun e w' => e = .returned (.tuple #[.int .i64 (mx (p - p / 3) (mn p 100)), .int .i64 0]) ∧ Below w.heap.size w w' := by
  by_cases c1 : 100 < p
  · by_cases c2 : p - p / 3 < 100
    · rw [show mx (p - p / 3) (mn p 100) = 100 by rw [mn_v, if_pos c1, mx_v, if_pos c2]]
      go_enter Try.func65, Try.ntmps65
      go_wp2_with (first | (go_at_call 73; refine (named_1 _).mono ?_; rintro e w1 ⟨b, rfl, hc, hlt, hb⟩; have hz := hb.size) | (go_at_call 77; refine (off_any b p 3 _ ?hc (by omega) (by omega) (by omega) (by omega)).mono ?_; (case hc => exact (World.cell?_alloc_lt _ _ _ hlt).trans hc); rintro e w2 ⟨rfl, rfl⟩))
      go_ret2
      exact ⟨rfl, hb.alloc hb.size _⟩
    · rw [show mx (p - p / 3) (mn p 100) = p - p / 3 by rw [mn_v, if_pos c1, mx_v, if_neg c2]]
      go_enter Try.func65, Try.ntmps65
      go_wp2_with (first | (go_at_call 73; refine (named_1 _).mono ?_; rintro e w1 ⟨b, rfl, hc, hlt, hb⟩; have hz := hb.size) | (go_at_call 77; refine (off_any b p 3 _ ?hc (by omega) (by omega) (by omega) (by omega)).mono ?_; (case hc => exact (World.cell?_alloc_lt _ _ _ hlt).trans hc); rintro e w2 ⟨rfl, rfl⟩))
      go_ret2
      exact ⟨rfl, hb.alloc hb.size _⟩
  · by_cases c2 : p - p / 3 < p
    · rw [show mx (p - p / 3) (mn p 100) = p by rw [mn_v, if_neg c1, mx_v, if_pos c2]]
      go_enter Try.func65, Try.ntmps65
      go_wp2_with (first | (go_at_call 73; refine (named_1 _).mono ?_; rintro e w1 ⟨b, rfl, hc, hlt, hb⟩; have hz := hb.size) | (go_at_call 77; refine (off_any b p 3 _ ?hc (by omega) (by omega) (by omega) (by omega)).mono ?_; (case hc => exact (World.cell?_alloc_lt _ _ _ hlt).trans hc); rintro e w2 ⟨rfl, rfl⟩))
      go_ret2
      exact ⟨rfl, hb.alloc hb.size _⟩
    · rw [show mx (p - p / 3) (mn p 100) = p - p / 3 by rw [mn_v, if_neg c1, mx_v, if_neg c2]]
      go_enter Try.func65, Try.ntmps65
      go_wp2_with (first | (go_at_call 73; refine (named_1 _).mono ?_; rintro e w1 ⟨b, rfl, hc, hlt, hb⟩; have hz := hb.size) | (go_at_call 77; refine (off_any b p 3 _ ?hc (by omega) (by omega) (by omega) (by omega)).mono ?_; (case hc => exact (World.cell?_alloc_lt _ _ _ hlt).trans hc); rintro e w2 ⟨rfl, rfl⟩))
      go_ret2
      exact ⟨rfl, hb.alloc hb.size _⟩
set_option maxRecDepth 100000 in
theorem cut_2 (p : Int) (w : World) (h0 : 0 ≤ p) (h1 : p ≤ 1000000000) :
    Calls Try.prog 65 #[.int .i64 p, .int .i64 2] w fun e w' => e = .returned (.tuple #[.int .i64 (mx (p - p / 2) (mn p 100)), .int .i64 0]) ∧ Below w.heap.size w w' := by
  by_cases c1 : 100 < p
  · by_cases c2 : p - p / 2 < 100
    · rw [show mx (p - p / 2) (mn p 100) = 100 by rw [mn_v, if_pos c1, mx_v, if_pos c2]]
      go_enter Try.func65, Try.ntmps65
      go_wp2_with (first | (go_at_call 73; refine (named_2 _).mono ?_; rintro e w1 ⟨b, rfl, hc, hlt, hb⟩; have hz := hb.size) | (go_at_call 77; refine (off_any b p 2 _ ?hc (by omega) (by omega) (by omega) (by omega)).mono ?_; (case hc => exact (World.cell?_alloc_lt _ _ _ hlt).trans hc); rintro e w2 ⟨rfl, rfl⟩))
      go_ret2
      exact ⟨rfl, hb.alloc hb.size _⟩
    · rw [show mx (p - p / 2) (mn p 100) = p - p / 2 by rw [mn_v, if_pos c1, mx_v, if_neg c2]]
      go_enter Try.func65, Try.ntmps65
      go_wp2_with (first | (go_at_call 73; refine (named_2 _).mono ?_; rintro e w1 ⟨b, rfl, hc, hlt, hb⟩; have hz := hb.size) | (go_at_call 77; refine (off_any b p 2 _ ?hc (by omega) (by omega) (by omega) (by omega)).mono ?_; (case hc => exact (World.cell?_alloc_lt _ _ _ hlt).trans hc); rintro e w2 ⟨rfl, rfl⟩))
      go_ret2
      exact ⟨rfl, hb.alloc hb.size _⟩
  · by_cases c2 : p - p / 2 < p
    · rw [show mx (p - p / 2) (mn p 100) = p by rw [mn_v, if_neg c1, mx_v, if_pos c2]]
      go_enter Try.func65, Try.ntmps65
      go_wp2_with (first | (go_at_call 73; refine (named_2 _).mono ?_; rintro e w1 ⟨b, rfl, hc, hlt, hb⟩; have hz := hb.size) | (go_at_call 77; refine (off_any b p 2 _ ?hc (by omega) (by omega) (by omega) (by omega)).mono ?_; (case hc => exact (World.cell?_alloc_lt _ _ _ hlt).trans hc); rintro e w2 ⟨rfl, rfl⟩))
      go_ret2
      exact ⟨rfl, hb.alloc hb.size _⟩
    · rw [show mx (p - p / 2) (mn p 100) = p - p / 2 by rw [mn_v, if_neg c1, mx_v, if_neg c2]]
      go_enter Try.func65, Try.ntmps65
      go_wp2_with (first | (go_at_call 73; refine (named_2 _).mono ?_; rintro e w1 ⟨b, rfl, hc, hlt, hb⟩; have hz := hb.size) | (go_at_call 77; refine (off_any b p 2 _ ?hc (by omega) (by omega) (by omega) (by omega)).mono ?_; (case hc => exact (World.cell?_alloc_lt _ _ _ hlt).trans hc); rintro e w2 ⟨rfl, rfl⟩))
      go_ret2
      exact ⟨rfl, hb.alloc hb.size _⟩
set_option maxRecDepth 100000 in
theorem cut_3 (p : Int) (w : World) (h0 : 0 ≤ p) (h1 : p ≤ 1000000000) :
    Calls Try.prog 65 #[.int .i64 p, .int .i64 3] w fun e w' => e = .returned (.tuple #[.int .i64 (mx (p - p / 10) (mn p 100)), .int .i64 0]) ∧ Below w.heap.size w w' := by
  by_cases c1 : 100 < p
  · by_cases c2 : p - p / 10 < 100
    · rw [show mx (p - p / 10) (mn p 100) = 100 by rw [mn_v, if_pos c1, mx_v, if_pos c2]]
      go_enter Try.func65, Try.ntmps65
      go_wp2_with (first | (go_at_call 73; refine (named_3 _).mono ?_; rintro e w1 ⟨b, rfl, hc, hlt, hb⟩; have hz := hb.size) | (go_at_call 77; refine (off_any b p 10 _ ?hc (by omega) (by omega) (by omega) (by omega)).mono ?_; (case hc => exact (World.cell?_alloc_lt _ _ _ hlt).trans hc); rintro e w2 ⟨rfl, rfl⟩))
      go_ret2
      exact ⟨rfl, hb.alloc hb.size _⟩
    · rw [show mx (p - p / 10) (mn p 100) = p - p / 10 by rw [mn_v, if_pos c1, mx_v, if_neg c2]]
      go_enter Try.func65, Try.ntmps65
      go_wp2_with (first | (go_at_call 73; refine (named_3 _).mono ?_; rintro e w1 ⟨b, rfl, hc, hlt, hb⟩; have hz := hb.size) | (go_at_call 77; refine (off_any b p 10 _ ?hc (by omega) (by omega) (by omega) (by omega)).mono ?_; (case hc => exact (World.cell?_alloc_lt _ _ _ hlt).trans hc); rintro e w2 ⟨rfl, rfl⟩))
      go_ret2
      exact ⟨rfl, hb.alloc hb.size _⟩
  · by_cases c2 : p - p / 10 < p
    · rw [show mx (p - p / 10) (mn p 100) = p by rw [mn_v, if_neg c1, mx_v, if_pos c2]]
      go_enter Try.func65, Try.ntmps65
      go_wp2_with (first | (go_at_call 73; refine (named_3 _).mono ?_; rintro e w1 ⟨b, rfl, hc, hlt, hb⟩; have hz := hb.size) | (go_at_call 77; refine (off_any b p 10 _ ?hc (by omega) (by omega) (by omega) (by omega)).mono ?_; (case hc => exact (World.cell?_alloc_lt _ _ _ hlt).trans hc); rintro e w2 ⟨rfl, rfl⟩))
      go_ret2
      exact ⟨rfl, hb.alloc hb.size _⟩
    · rw [show mx (p - p / 10) (mn p 100) = p - p / 10 by rw [mn_v, if_neg c1, mx_v, if_neg c2]]
      go_enter Try.func65, Try.ntmps65
      go_wp2_with (first | (go_at_call 73; refine (named_3 _).mono ?_; rintro e w1 ⟨b, rfl, hc, hlt, hb⟩; have hz := hb.size) | (go_at_call 77; refine (off_any b p 10 _ ?hc (by omega) (by omega) (by omega) (by omega)).mono ?_; (case hc => exact (World.cell?_alloc_lt _ _ _ hlt).trans hc); rintro e w2 ⟨rfl, rfl⟩))
      go_ret2
      exact ⟨rfl, hb.alloc hb.size _⟩
set_option maxRecDepth 100000 in
theorem cut_low_0 (p : Int) (w : World) (c1 : p < 0) :
    Calls Try.prog 65 #[.int .i64 p, .int .i64 0] w fun e w' => e = .returned (.tuple #[.int .i64 0, .int .i64 1]) ∧ Below w.heap.size w w' := by
  go_enter Try.func65, Try.ntmps65
  go_wp2_with (first | (go_at_call 73; refine (named_0 _).mono ?_; rintro e w1 ⟨rfl, hb⟩; have hz := hb.size))
  go_ret2
  exact ⟨rfl, hb.alloc hb.size _⟩
set_option maxRecDepth 100000 in
theorem cut_high_0 (p : Int) (w : World) (c0 : 0 ≤ p) (c1 : 1000000000 < p) :
    Calls Try.prog 65 #[.int .i64 p, .int .i64 0] w fun e w' => e = .returned (.tuple #[.int .i64 0, .int .i64 1]) ∧ Below w.heap.size w w' := by
  go_enter Try.func65, Try.ntmps65
  go_wp2_with (first | (go_at_call 73; refine (named_0 _).mono ?_; rintro e w1 ⟨rfl, hb⟩; have hz := hb.size))
  go_ret2
  exact ⟨rfl, hb.alloc hb.size _⟩
set_option maxRecDepth 100000 in
theorem cut_low_1 (p : Int) (w : World) (c1 : p < 0) :
    Calls Try.prog 65 #[.int .i64 p, .int .i64 1] w fun e w' => e = .returned (.tuple #[.int .i64 0, .int .i64 1]) ∧ Below w.heap.size w w' := by
  go_enter Try.func65, Try.ntmps65
  go_wp2_with (first | (go_at_call 73; refine (named_1 _).mono ?_; rintro e w1 ⟨b, rfl, hc, hlt, hb⟩; have hz := hb.size) | (go_at_call 77; refine (off_any b p 3 _ ?hc (by omega) (by omega) (by omega) (by omega)).mono ?_; (case hc => exact (World.cell?_alloc_lt _ _ _ hlt).trans hc); rintro e w2 ⟨rfl, rfl⟩))
  go_ret2
  exact ⟨rfl, hb.alloc hb.size _⟩
set_option maxRecDepth 100000 in
theorem cut_high_1 (p : Int) (w : World) (c0 : 0 ≤ p) (c1 : 1000000000 < p) :
    Calls Try.prog 65 #[.int .i64 p, .int .i64 1] w fun e w' => e = .returned (.tuple #[.int .i64 0, .int .i64 1]) ∧ Below w.heap.size w w' := by
  go_enter Try.func65, Try.ntmps65
  go_wp2_with (first | (go_at_call 73; refine (named_1 _).mono ?_; rintro e w1 ⟨b, rfl, hc, hlt, hb⟩; have hz := hb.size) | (go_at_call 77; refine (off_any b p 3 _ ?hc (by omega) (by omega) (by omega) (by omega)).mono ?_; (case hc => exact (World.cell?_alloc_lt _ _ _ hlt).trans hc); rintro e w2 ⟨rfl, rfl⟩))
  go_ret2
  exact ⟨rfl, hb.alloc hb.size _⟩
set_option maxRecDepth 100000 in
theorem cut_low_2 (p : Int) (w : World) (c1 : p < 0) :
    Calls Try.prog 65 #[.int .i64 p, .int .i64 2] w fun e w' => e = .returned (.tuple #[.int .i64 0, .int .i64 1]) ∧ Below w.heap.size w w' := by
  go_enter Try.func65, Try.ntmps65
  go_wp2_with (first | (go_at_call 73; refine (named_2 _).mono ?_; rintro e w1 ⟨b, rfl, hc, hlt, hb⟩; have hz := hb.size) | (go_at_call 77; refine (off_any b p 2 _ ?hc (by omega) (by omega) (by omega) (by omega)).mono ?_; (case hc => exact (World.cell?_alloc_lt _ _ _ hlt).trans hc); rintro e w2 ⟨rfl, rfl⟩))
  go_ret2
  exact ⟨rfl, hb.alloc hb.size _⟩
set_option maxRecDepth 100000 in
theorem cut_high_2 (p : Int) (w : World) (c0 : 0 ≤ p) (c1 : 1000000000 < p) :
    Calls Try.prog 65 #[.int .i64 p, .int .i64 2] w fun e w' => e = .returned (.tuple #[.int .i64 0, .int .i64 1]) ∧ Below w.heap.size w w' := by
  go_enter Try.func65, Try.ntmps65
  go_wp2_with (first | (go_at_call 73; refine (named_2 _).mono ?_; rintro e w1 ⟨b, rfl, hc, hlt, hb⟩; have hz := hb.size) | (go_at_call 77; refine (off_any b p 2 _ ?hc (by omega) (by omega) (by omega) (by omega)).mono ?_; (case hc => exact (World.cell?_alloc_lt _ _ _ hlt).trans hc); rintro e w2 ⟨rfl, rfl⟩))
  go_ret2
  exact ⟨rfl, hb.alloc hb.size _⟩
set_option maxRecDepth 100000 in
theorem cut_low_3 (p : Int) (w : World) (c1 : p < 0) :
    Calls Try.prog 65 #[.int .i64 p, .int .i64 3] w fun e w' => e = .returned (.tuple #[.int .i64 0, .int .i64 1]) ∧ Below w.heap.size w w' := by
  go_enter Try.func65, Try.ntmps65
  go_wp2_with (first | (go_at_call 73; refine (named_3 _).mono ?_; rintro e w1 ⟨b, rfl, hc, hlt, hb⟩; have hz := hb.size) | (go_at_call 77; refine (off_any b p 10 _ ?hc (by omega) (by omega) (by omega) (by omega)).mono ?_; (case hc => exact (World.cell?_alloc_lt _ _ _ hlt).trans hc); rintro e w2 ⟨rfl, rfl⟩))
  go_ret2
  exact ⟨rfl, hb.alloc hb.size _⟩
set_option maxRecDepth 100000 in
theorem cut_high_3 (p : Int) (w : World) (c0 : 0 ≤ p) (c1 : 1000000000 < p) :
    Calls Try.prog 65 #[.int .i64 p, .int .i64 3] w fun e w' => e = .returned (.tuple #[.int .i64 0, .int .i64 1]) ∧ Below w.heap.size w w' := by
  go_enter Try.func65, Try.ntmps65
  go_wp2_with (first | (go_at_call 73; refine (named_3 _).mono ?_; rintro e w1 ⟨b, rfl, hc, hlt, hb⟩; have hz := hb.size) | (go_at_call 77; refine (off_any b p 10 _ ?hc (by omega) (by omega) (by omega) (by omega)).mono ?_; (case hc => exact (World.cell?_alloc_lt _ _ _ hlt).trans hc); rintro e w2 ⟨rfl, rfl⟩))
  go_ret2
  exact ⟨rfl, hb.alloc hb.size _⟩
set_option maxRecDepth 100000 in
theorem cut_low_no (p : Int) (n : Int) (w : World) (h0 : (n == 0) = false) (h1 : (n == 1) = false) (h2 : (n == 2) = false) (h3 : (n == 3) = false) (c1 : p < 0) :
    Calls Try.prog 65 #[.int .i64 p, .int .i64 n] w fun e w' => e = .returned (.tuple #[.int .i64 0, .int .i64 1]) ∧ Below w.heap.size w w' := by
  have H0 := Lib.hid h0
  have H1 := Lib.hid h1
  have H2 := Lib.hid h2
  have H3 := Lib.hid h3
  clear h0 h1 h2 h3
  go_enter Try.func65, Try.ntmps65
  go_wp2_with (first | (go_at_call 73; refine (named_no _ _ H0.out H1.out H2.out H3.out).mono ?_; rintro e w1 ⟨rfl, hb⟩; have hz := hb.size))
  go_ret2
  exact ⟨rfl, hb.alloc hb.size _⟩
set_option maxRecDepth 100000 in
theorem cut_high_no (p : Int) (n : Int) (w : World) (h0 : (n == 0) = false) (h1 : (n == 1) = false) (h2 : (n == 2) = false) (h3 : (n == 3) = false) (c0 : 0 ≤ p) (c1 : 1000000000 < p) :
    Calls Try.prog 65 #[.int .i64 p, .int .i64 n] w fun e w' => e = .returned (.tuple #[.int .i64 0, .int .i64 1]) ∧ Below w.heap.size w w' := by
  have H0 := Lib.hid h0
  have H1 := Lib.hid h1
  have H2 := Lib.hid h2
  have H3 := Lib.hid h3
  clear h0 h1 h2 h3
  go_enter Try.func65, Try.ntmps65
  go_wp2_with (first | (go_at_call 73; refine (named_no _ _ H0.out H1.out H2.out H3.out).mono ?_; rintro e w1 ⟨rfl, hb⟩; have hz := hb.size))
  go_ret2
  exact ⟨rfl, hb.alloc hb.size _⟩
set_option maxRecDepth 100000 in
theorem cut_mid_no (p : Int) (n : Int) (w : World) (h0 : (n == 0) = false) (h1 : (n == 1) = false) (h2 : (n == 2) = false) (h3 : (n == 3) = false) (c0 : 0 ≤ p) (c1 : p ≤ 1000000000) :
    Calls Try.prog 65 #[.int .i64 p, .int .i64 n] w fun e w' => e = .returned (.tuple #[.int .i64 0, .int .i64 1]) ∧ Below w.heap.size w w' := by
  have H0 := Lib.hid h0
  have H1 := Lib.hid h1
  have H2 := Lib.hid h2
  have H3 := Lib.hid h3
  clear h0 h1 h2 h3
  go_enter Try.func65, Try.ntmps65
  go_wp2_with (first | (go_at_call 73; refine (named_no _ _ H0.out H1.out H2.out H3.out).mono ?_; rintro e w1 ⟨rfl, hb⟩; have hz := hb.size))
  go_ret2
  exact ⟨rfl, hb.alloc hb.size _⟩
theorem cut_any (p n : Int) (w : World) : Calls Try.prog 65 #[.int .i64 p, .int .i64 n] w fun e w' => e = .returned (.tuple #[.int .i64 (cutR p n).1, .int .i64 (cutR p n).2]) ∧ Below w.heap.size w w' := by
  by_cases hn : 0 ≤ n ∧ n ≤ 3
  · by_cases hp : 0 ≤ p ∧ p ≤ 1000000000
    · rw [show cutR p n = (mx (p - (if n = 0 then 0 else if n = 1 then p / 3 else if n = 2 then p / 2 else p / 10)) (mn p 100), 0) by unfold cutR; rw [if_neg (by omega)]]
      rcases (by omega : n = 0 ∨ n = 1 ∨ n = 2 ∨ n = 3) with rfl | rfl | rfl | rfl
      · exact cut_0 p w hp.1 hp.2
      · exact cut_1 p w hp.1 hp.2
      · exact cut_2 p w hp.1 hp.2
      · exact cut_3 p w hp.1 hp.2
    · rw [show cutR p n = (0, 1) by unfold cutR; rw [if_pos (by omega)]]
      by_cases hl : p < 0
      · rcases (by omega : n = 0 ∨ n = 1 ∨ n = 2 ∨ n = 3) with rfl | rfl | rfl | rfl
        · exact cut_low_0 p w hl
        · exact cut_low_1 p w hl
        · exact cut_low_2 p w hl
        · exact cut_low_3 p w hl
      · rcases (by omega : n = 0 ∨ n = 1 ∨ n = 2 ∨ n = 3) with rfl | rfl | rfl | rfl
        · exact cut_high_0 p w (by omega) (by omega)
        · exact cut_high_1 p w (by omega) (by omega)
        · exact cut_high_2 p w (by omega) (by omega)
        · exact cut_high_3 p w (by omega) (by omega)
  · rw [show cutR p n = (0, 1) by unfold cutR; rw [if_pos (by omega)]]
    have h0 : (n == 0) = false := beq_eq_false_iff_ne.2 (by omega)
    have h1 : (n == 1) = false := beq_eq_false_iff_ne.2 (by omega)
    have h2 : (n == 2) = false := beq_eq_false_iff_ne.2 (by omega)
    have h3 : (n == 3) = false := beq_eq_false_iff_ne.2 (by omega)
    by_cases hl : p < 0
    · exact cut_low_no p n w h0 h1 h2 h3 hl
    by_cases hh : 1000000000 < p
    · exact cut_high_no p n w h0 h1 h2 h3 (by omega) hh
    · exact cut_mid_no p n w h0 h1 h2 h3 (by omega) (by omega)
end Go.Proofs.Ytdiijjdhofaodaa.G
end
section
namespace Go.Proofs.Ytdiijjdhofaodaa.PL
open Go.RowKit Go.Proofs.YtdiijjdhofaodaaW.PrintWords Go.Proofs.YtdiijjdhofaodaaW.PrintLast Go.Proofs.YtdiijjdhofaodaaW.PrintMore
attribute [local go_sem] max2_int min2_int max_two min_two max_three min_three max_four min_four   -- for this text's walks alone
set_option linter.unusedVariables false
set_option linter.unusedSimpArgs false

theorem eqA25 (d : Nat) (w : World) (x0 y0 : Int) (x1 y1 : Int) :
    (Op.equalIn (d + 2) 25 (.agg #[.int .i64 x0, .int .i64 x1]) (.agg #[.int .i64 y0, .int .i64 y1])).run Try.prog w = .ok (x0 == y0 && (x1 == y1)) w := by
  refine eqA_of Try.underlying25 (by kernel_rfl) ?_
  refine eqf_cons (by rfl) (by go_simp; rfl) (by go_simp; rfl) (by go_simp) ?_
  exact eqf_last (by rfl) (by go_simp; rfl) (by go_simp; rfl) (by go_simp)
end Go.Proofs.Ytdiijjdhofaodaa.PL
end
