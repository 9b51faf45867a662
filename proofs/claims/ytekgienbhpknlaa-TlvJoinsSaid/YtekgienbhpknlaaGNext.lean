/- The walk of (*tlv.reader).next: what the next field is, and where the reader stands behind it. -/
import Derived.Test.YtekgienbhpknlaaWMore
import Derived.Test.YtekgienbhpknlaaGMake
import Derived.Deep.QuietTactic
import Derived.BigQuiet
import Derived.RegionTactic
import Derived.Test.YtekgienbhpknlaaPLx0
namespace Go.Proofs.Ytekgienbhpknlaa.G
open Go Go.RowKit Go.Proofs.YtekgienbhpknlaaW.PrintWords Go.Proofs.YtekgienbhpknlaaW.PrintLast Go.Proofs.YtekgienbhpknlaaW.PrintMore
theorem cut_full {P : Program} (t e : TypeId) (kl kh : IntKind) {i : TypeInfo} (ht : P.underlying t = some (.slice e)) (hi : P.info? e = some i) (size : Nat) (hsz : i.size = size) (A : Option Addr) (n c : Nat) (lo hi' : Int) (h0 : 0 ≤ lo) (h1 : lo ≤ hi') (h2 : hi' ≤ n) (hc : n ≤ c) :
    ∀ W : World, (Instr.slice t (.slice A n c) (some (.int kl lo)) (some (.int kh hi')) (some (.int kh hi'))).run P W = .ok (.slice (if hi'.toNat = lo.toNat then A else A.map (·.add (lo.toNat * size))) (hi'.toNat - lo.toNat) (hi'.toNat - lo.toNat)) W := by
  intro W
  have hel : P.elem t = e := by simp [Program.elem, ht]
  have hu : P.underlying t = some (.slice (P.elem t)) := by rw [hel]; exact ht
  rw [run_slice_lhm W t A n c hu kl kh kh lo hi' hi' h0 h1 (by omega) (by omega), hel]
  simp [sizeOf, typeInfo, hi, hsz, sliced, Result.andThen]
/-- Block b holds these cells. -/
def Blk (W : World) (b : Nat) (cs : Array Value) (t : TypeId) : Prop := W.heap[b]? = some (.cells cs t (0, 0))
theorem Blk.lt {W : World} {b : Nat} {cs : Array Value} {t : TypeId} (h : Blk W b cs t) : b < W.heap.size := (Array.getElem?_eq_some_iff.1 h).1
theorem Blk.new (W : World) (cs : Array Value) (t : TypeId) : Blk (W.alloc (.cells cs t)) W.heap.size cs t := heap_alloc_new W _
theorem Blk.alloc {W : World} {b : Nat} {cs : Array Value} {t : TypeId} (h : Blk W b cs t) (o : Obj) : Blk (W.alloc o) b cs t := (Below.heap_alloc W o b h.lt).trans h
theorem Blk.below {W W' : World} {b B : Nat} {cs : Array Value} {t : TypeId} (h : Blk W b cs t) (hb : Below B W W') (hB : b < B) : Blk W' b cs t := (hb.block b hB).trans h
theorem Blk.cell {W : World} {b : Nat} {cs : Array Value} {t : TypeId} (h : Blk W b cs t) (i : Nat) (v : Value) (hv : cs[i]? = some v) : W.cell? ⟨b, i, none⟩ = some v := by
  simp [World.cell?, show W.heap[b]? = _ from h, hv]
theorem Blk.frozen {W : World} {b : Nat} {cs : Array Value} {t : TypeId} (h : Blk W b cs t) (i : Nat) : W.frozen? ⟨b, i, none⟩ = false := by simp [World.frozen?, show W.heap[b]? = _ from h]
set_option maxRecDepth 100000 in
set_option maxHeartbeats 1000000 in
theorem next_short (b : Nat) (A : Option Addr) (n c : Nat) (last : Int) (w : World) (hb : Blk w b #[.slice A n c, .int .i64 last] 59) (hn : n < 2) :
    Calls Try.prog 36 #[.pointer (some ⟨b, 0, none⟩)] w fun e w' => e = .returned (.tuple #[.agg #[.int .i64 0, .slice none 0 0], .int .i64 14]) ∧ Below w.heap.size w w' := by
  have q0 : ∀ o, (w.alloc o).cell? ⟨b, 0, none⟩ = some (.slice A n c) := fun o => (hb.alloc o).cell 0 _ rfl
  have hn' : (n : Int) < 2 := by omega
  go_enter Try.func36, Try.ntmps36
  go_wp2
  have t0 := (blk_new w (.cells #[.int .i64 0, .slice none 0 0] 40))
  refine bodyPost_ret (v := .tuple #[.agg #[.int .i64 0, .slice none 0 0], .int .i64 14]) (by simp [results, Try.results36, go_sem, Blk.cell t0]) rfl ⟨rfl, below_alloc (Below.refl _ _) _⟩
set_option maxRecDepth 100000 in
set_option maxHeartbeats 1000000 in
theorem next_order (b : Nat) (ad : Addr) (n c : Nat) (last x0 x1 : Int) (w : World) (hb : Blk w b #[.slice (some ad) n c, .int .i64 last] 59) (hn : 2 ≤ n) (h0 : w.cell? ad = some (.int .u8 x0)) (h1 : w.cell? ⟨ad.block, ad.off + 1, none⟩ = some (.int .u8 x1)) (hx0 : 0 ≤ x0) (hx1 : x0 < 256) (hy0 : 0 ≤ x1) (hy1 : x1 < 256) (ho : x0 ≤ last) :
    Calls Try.prog 36 #[.pointer (some ⟨b, 0, none⟩)] w fun e w' => e = .returned (.tuple #[.agg #[.int .i64 0, .slice none 0 0], .int .i64 13]) ∧ Below w.heap.size w w' := by
  have q0 : ∀ o, (w.alloc o).cell? ⟨b, 0, none⟩ = some (.slice (some ad) n c) := fun o => (hb.alloc o).cell 0 _ rfl
  have q2 : ∀ o o', ((w.alloc o).alloc o').cell? ⟨b, 0, none⟩ = some (.slice (some ad) n c) := fun o o' => ((hb.alloc o).alloc o').cell 0 _ rfl
  have r2 : ∀ o o', ((w.alloc o).alloc o').cell? ⟨b, 1, none⟩ = some (.int .i64 last) := fun o o' => ((hb.alloc o).alloc o').cell 1 _ rfl
  have b0 : ∀ o, (w.alloc o).cell? ad = some (.int .u8 x0) := fun o => ((below_alloc (Below.refl _ _) o).cell (World.block_lt_of_cell? w _ h0)).trans h0
  have b1 : ∀ o o', ((w.alloc o).alloc o').cell? ⟨ad.block, ad.off + 1, none⟩ = some (.int .u8 x1) := fun o o' => ((below_alloc (below_alloc (Below.refl _ _) o) o').cell (World.block_lt_of_cell? w _ h1)).trans h1
  have hn' : ¬ (n : Int) < 2 := by omega
  have hn0 : 0 < n := by omega
  have hn1 : 1 < n := by omega
  have hw0 : wrap64 x0 = x0 := by unfold wrap64; omega
  have hw1 : wrap64 x1 = x1 := by unfold wrap64; omega
  have hw2 : wrap64 (2 + x1) = 2 + x1 := by unfold wrap64; omega
  go_enter Try.func36, Try.ntmps36
  go_wp2
  try rw [hw0] at *
  try rw [hw1] at *
  have f0 := Blk.cell (blk_new (w.alloc (.cells #[.int .i64 0, .slice none 0 0] 40)) (.cells #[.int .i64 x0, .slice none 0 0] 40)) 0 _ rfl
  rw [World.size_alloc] at f0
  go_quiet (fail)
  go_wp2
  have z := (blk_alloc (blk_new w (.cells #[.int .i64 0, .slice none 0 0] 40)) (.cells #[.int .i64 x0, .slice none 0 0] 40))
  have y : Blk _ w.heap.size #[.int .i64 0, .slice none 0 0] 40 := blk_put (blk_put (blk_drewN z nq) 0 (.int .i64 0) rfl) 1 (.slice none 0 0) rfl
  have y0 := y.cell 0 _ rfl
  have y1 := y.cell 1 _ rfl
  refine bodyPost_ret (v := .tuple #[.agg #[.int .i64 0, .slice none 0 0], .int .i64 13]) (by simp [results, Try.results36, go_sem, y0, y1]) rfl ⟨rfl, ?_⟩
  exact below_set (below_set (pw_below_drewN (below_alloc (below_alloc (Below.refl _ _) _) _) nq) (Nat.le_refl _)) (Nat.le_refl _)
set_option maxRecDepth 100000 in
set_option maxHeartbeats 1000000 in
theorem next_len (b : Nat) (ad : Addr) (n c : Nat) (last x0 x1 : Int) (w : World) (hb : Blk w b #[.slice (some ad) n c, .int .i64 last] 59) (hn : 2 ≤ n) (h0 : w.cell? ad = some (.int .u8 x0)) (h1 : w.cell? ⟨ad.block, ad.off + 1, none⟩ = some (.int .u8 x1)) (hx0 : 0 ≤ x0) (hx1 : x0 < 256) (hy0 : 0 ≤ x1) (hy1 : x1 < 256) (ho : ¬ x0 ≤ last) (hl : (n : Int) < 2 + x1) :
    Calls Try.prog 36 #[.pointer (some ⟨b, 0, none⟩)] w fun e w' => e = .returned (.tuple #[.agg #[.int .i64 0, .slice none 0 0], .int .i64 14]) ∧ Below w.heap.size w w' := by
  have q0 : ∀ o, (w.alloc o).cell? ⟨b, 0, none⟩ = some (.slice (some ad) n c) := fun o => (hb.alloc o).cell 0 _ rfl
  have q2 : ∀ o o', ((w.alloc o).alloc o').cell? ⟨b, 0, none⟩ = some (.slice (some ad) n c) := fun o o' => ((hb.alloc o).alloc o').cell 0 _ rfl
  have r2 : ∀ o o', ((w.alloc o).alloc o').cell? ⟨b, 1, none⟩ = some (.int .i64 last) := fun o o' => ((hb.alloc o).alloc o').cell 1 _ rfl
  have b0 : ∀ o, (w.alloc o).cell? ad = some (.int .u8 x0) := fun o => ((below_alloc (Below.refl _ _) o).cell (World.block_lt_of_cell? w _ h0)).trans h0
  have b1 : ∀ o o', ((w.alloc o).alloc o').cell? ⟨ad.block, ad.off + 1, none⟩ = some (.int .u8 x1) := fun o o' => ((below_alloc (below_alloc (Below.refl _ _) o) o').cell (World.block_lt_of_cell? w _ h1)).trans h1
  have hn' : ¬ (n : Int) < 2 := by omega
  have hn0 : 0 < n := by omega
  have hn1 : 1 < n := by omega
  have hw0 : wrap64 x0 = x0 := by unfold wrap64; omega
  have hw1 : wrap64 x1 = x1 := by unfold wrap64; omega
  have hw2 : wrap64 (2 + x1) = 2 + x1 := by unfold wrap64; omega
  go_enter Try.func36, Try.ntmps36
  go_wp2
  try rw [hw0] at *
  try rw [hw1] at *
  have f0 := Blk.cell (blk_new (w.alloc (.cells #[.int .i64 0, .slice none 0 0] 40)) (.cells #[.int .i64 x0, .slice none 0 0] 40)) 0 _ rfl
  rw [World.size_alloc] at f0
  go_quiet (fail)
  have q3 : ∀ o o' nq, (((w.alloc o).alloc o').drewN nq).cell? ⟨b, 0, none⟩ = some (.slice (some ad) n c) := fun o o' nq => ((hb.alloc o).alloc o').cell 0 _ rfl
  go_wp2
  have z := (blk_alloc (blk_new w (.cells #[.int .i64 0, .slice none 0 0] 40)) (.cells #[.int .i64 x0, .slice none 0 0] 40))
  have y : Blk _ w.heap.size #[.int .i64 0, .slice none 0 0] 40 := blk_put (blk_put (blk_drewN z nq) 0 (.int .i64 0) rfl) 1 (.slice none 0 0) rfl
  have y0 := y.cell 0 _ rfl
  have y1 := y.cell 1 _ rfl
  refine bodyPost_ret (v := .tuple #[.agg #[.int .i64 0, .slice none 0 0], .int .i64 14]) (by simp [results, Try.results36, go_sem, y0, y1]) rfl ⟨rfl, ?_⟩
  exact below_set (below_set (pw_below_drewN (below_alloc (below_alloc (Below.refl _ _) _) _) nq) (Nat.le_refl _)) (Nat.le_refl _)
set_option maxRecDepth 100000 in
set_option maxHeartbeats 1000000 in
theorem next_ok (b : Nat) (ad : Addr) (n c : Nat) (last x0 x1 : Int) (w : World) (hb : Blk w b #[.slice (some ad) n c, .int .i64 last] 59) (hn : 2 ≤ n) (h0 : w.cell? ad = some (.int .u8 x0)) (h1 : w.cell? ⟨ad.block, ad.off + 1, none⟩ = some (.int .u8 x1)) (hx0 : 0 ≤ x0) (hx1 : x0 < 256) (hy0 : 0 ≤ x1) (hy1 : x1 < 256) (ho : ¬ x0 ≤ last) (hl : ¬ (n : Int) < 2 + x1) (hc : n ≤ c) (A2 A3 : Option Addr) (hA2 : A2 = if (2 + x1).toNat = (2 : Int).toNat then some ad else (some ad).map (·.add ((2 : Int).toNat * 1))) (hA3 : A3 = if c = (2 + x1).toNat then some ad else (some ad).map (·.add ((2 + x1).toNat * 1))) :
    Calls Try.prog 36 #[.pointer (some ⟨b, 0, none⟩)] w fun e w' => e = .returned (.tuple #[.agg #[.int .i64 x0, .slice A2 ((2 + x1).toNat - (2 : Int).toNat) ((2 + x1).toNat - (2 : Int).toNat)], .int .i64 0]) ∧ Blk w' b #[.slice A3 (n - (2 + x1).toNat) (c - (2 + x1).toNat), .int .i64 x0] 59 ∧ Below b w w' ∧ Kept w w' (fun k => k = b) := by
  have q0 : ∀ o, (w.alloc o).cell? ⟨b, 0, none⟩ = some (.slice (some ad) n c) := fun o => (hb.alloc o).cell 0 _ rfl
  have q2 : ∀ o o', ((w.alloc o).alloc o').cell? ⟨b, 0, none⟩ = some (.slice (some ad) n c) := fun o o' => ((hb.alloc o).alloc o').cell 0 _ rfl
  have r2 : ∀ o o', ((w.alloc o).alloc o').cell? ⟨b, 1, none⟩ = some (.int .i64 last) := fun o o' => ((hb.alloc o).alloc o').cell 1 _ rfl
  have b0 : ∀ o, (w.alloc o).cell? ad = some (.int .u8 x0) := fun o => ((below_alloc (Below.refl _ _) o).cell (World.block_lt_of_cell? w _ h0)).trans h0
  have b1 : ∀ o o', ((w.alloc o).alloc o').cell? ⟨ad.block, ad.off + 1, none⟩ = some (.int .u8 x1) := fun o o' => ((below_alloc (below_alloc (Below.refl _ _) o) o').cell (World.block_lt_of_cell? w _ h1)).trans h1
  have hn' : ¬ (n : Int) < 2 := by omega
  have hn0 : 0 < n := by omega
  have hn1 : 1 < n := by omega
  obtain ⟨i5, hi5, _, hsz5, _⟩ := info_parts Go.Proofs.Ytekgienbhpknlaa.PL.info5
  have hcut2 := cut_full (P := Try.prog) 24 5 .i64 .i64 Try.underlying24 hi5 1 hsz5 (some ad) n c 2 (2 + x1) (by omega) (by omega) (by omega) hc
  have hcut3 := cut_from (P := Try.prog) 24 5 .i64 Try.underlying24 hi5 1 hsz5 (some ad) n c (2 + x1) (by omega) (by omega)
  rw [← hA2] at hcut2
  rw [← hA3] at hcut3
  have hw0 : wrap64 x0 = x0 := by unfold wrap64; omega
  have hw1 : wrap64 x1 = x1 := by unfold wrap64; omega
  have hw2 : wrap64 (2 + x1) = 2 + x1 := by unfold wrap64; omega
  clear hc hy0 hA2 hA3
  go_enter Try.func36, Try.ntmps36
  go_wp2
  try rw [hw0] at *
  try rw [hw1] at *
  have f0 := Blk.cell (blk_new (w.alloc (.cells #[.int .i64 0, .slice none 0 0] 40)) (.cells #[.int .i64 x0, .slice none 0 0] 40)) 0 _ rfl
  rw [World.size_alloc] at f0
  go_quiet (fail)
  have q3 : ∀ o o' nq, (((w.alloc o).alloc o').drewN nq).cell? ⟨b, 0, none⟩ = some (.slice (some ad) n c) := fun o o' nq => ((hb.alloc o).alloc o').cell 0 _ rfl
  have q4 : ∀ o o' nq v, ((((w.alloc o).alloc o').drewN nq).setCell ⟨w.heap.size + 1, 1, none⟩ v).cell? ⟨b, 0, none⟩ = some (.slice (some ad) n c) := fun o o' nq v => Blk.cell (blk_far ((hb.alloc o).alloc o') (p := ⟨w.heap.size + 1, 1, none⟩) (by have := hb.lt; simp; omega) v) 0 _ rfl
  go_wp2
  have z0 : Blk _ b _ _ := blk_far (blk_drewN ((hb.alloc (.cells #[.int .i64 0, .slice none 0 0] 40)).alloc (.cells #[.int .i64 x0, .slice none 0 0] 40)) nq) (p := ⟨w.heap.size + 1, 1, none⟩) (by have := hb.lt; simp; omega) (.slice A2 ((2 + x1).toNat - 2) ((2 + x1).toNat - 2))
  have zr : Blk _ w.heap.size _ _ := blk_far (blk_drewN (blk_alloc (blk_new w (.cells #[.int .i64 0, .slice none 0 0] 40)) (.cells #[.int .i64 x0, .slice none 0 0] 40)) nq) (p := ⟨w.heap.size + 1, 1, none⟩) (by simp) (.slice A2 ((2 + x1).toNat - 2) ((2 + x1).toNat - 2))
  have zf : Blk _ (w.heap.size + 1) #[.int .i64 x0, .slice A2 ((2 + x1).toNat - 2) ((2 + x1).toNat - 2)] 40 := blk_put (blk_drewN (by simpa using Blk.new (w.alloc (.cells #[.int .i64 0, .slice none 0 0] 40)) #[.int .i64 x0, .slice none 0 0] 40 : Blk ((w.alloc (.cells #[.int .i64 0, .slice none 0 0] 40)).alloc (.cells #[.int .i64 x0, .slice none 0 0] 40)) (w.heap.size + 1) #[.int .i64 x0, .slice none 0 0] 40) nq) 1 (.slice A2 ((2 + x1).toNat - 2) ((2 + x1).toNat - 2)) rfl
  have HB : Below w.heap.size w _ := below_set (j := 1) (g := w.heap.size + 1) (v := .slice A2 ((2 + x1).toNat - 2) ((2 + x1).toNat - 2)) (pw_below_drewN (below_alloc (below_alloc (Below.refl w.heap.size w) (.cells #[.int .i64 0, .slice none 0 0] 40)) (.cells #[.int .i64 x0, .slice none 0 0] 40)) nq) (by omega)
  clear q0 q2 r2 b0 b1 q3 q4
  generalize ((((w.alloc (Obj.cells #[Value.int IntKind.i64 0, Value.slice none 0 0] 40)).alloc (Obj.cells #[Value.int IntKind.i64 x0, Value.slice none 0 0] 40)).drewN nq).setCell { block := w.heap.size + 1, off := 1 } (Value.slice A2 ((2 + x1).toNat - 2) ((2 + x1).toNat - 2))) = W1 at *
  have c0 := z0.cell 0 _ rfl
  have c1 := z0.cell 1 _ rfl
  have f0 := z0.frozen 0
  have f1 := z0.frozen 1
  have d0 := zf.cell 0 _ rfl
  have d1 := zf.cell 1 _ rfl
  have hbl := hb.lt
  have e0 : ∀ i v, (W1.setCell ⟨b, i, none⟩ v).cell? ⟨w.heap.size + 1, 0, none⟩ = some (.int .i64 x0) := fun i v => Blk.cell (blk_far zf (p := ⟨b, i, none⟩) (by simp; omega) v) 0 _ rfl
  go_region
  have y0 : Blk _ b #[.slice A3 (n - (2 + x1).toNat) (c - (2 + x1).toNat), .int .i64 x0] 59 := blk_drew (blk_put (blk_put z0 0 (.slice A3 (n - (2 + x1).toNat) (c - (2 + x1).toNat)) rfl) 1 (.int .i64 x0) rfl)
  have yr : Blk _ w.heap.size #[.int .i64 0, .slice none 0 0] 40 := blk_drew (blk_far (p := ⟨b, 1, none⟩) (blk_far (p := ⟨b, 0, none⟩) zr (by simp; omega) (.slice A3 (n - (2 + x1).toNat) (c - (2 + x1).toNat))) (by simp; omega) (.int .i64 x0))
  have yf : Blk _ (w.heap.size + 1) #[.int .i64 x0, .slice A2 ((2 + x1).toNat - 2) ((2 + x1).toNat - 2)] 40 := blk_drew (blk_far (p := ⟨b, 1, none⟩) (blk_far (p := ⟨b, 0, none⟩) zf (by simp; omega) (.slice A3 (n - (2 + x1).toNat) (c - (2 + x1).toNat))) (by simp; omega) (.int .i64 x0))
  have HB2 : Below b w _ := (((HB.mono (Nat.le_of_lt hbl)).setCell (p := ⟨b, 0, none⟩) (Nat.le_refl b) (.slice A3 (n - (2 + x1).toNat) (c - (2 + x1).toNat))).setCell (p := ⟨b, 1, none⟩) (Nat.le_refl b) (.int .i64 x0)).drew
  have HK : Kept w _ (fun k => k = b) := (((Kept.of_below HB (fun k => k = b)).setCell (p := ⟨b, 0, none⟩) (.inl rfl) (.slice A3 (n - (2 + x1).toNat) (c - (2 + x1).toNat))).setCell (p := ⟨b, 1, none⟩) (.inl rfl) (.int .i64 x0)).drew
  clear c0 c1 f0 f1 d0 d1 e0 z0 zr zf HB
  generalize ((W1.setCell { block := b, off := 0 } (Value.slice A3 (n - (2 + x1).toNat) (c - (2 + x1).toNat))).setCell { block := b, off := 1 } (Value.int IntKind.i64 x0)).drew = W2 at *
  have d0 := yf.cell 0 _ rfl
  have d1 := yf.cell 1 _ rfl
  have g0 := yr.frozen 0
  have g1 := yr.frozen 1
  have g2 := yr.cell 0 _ rfl
  have g3 := yr.cell 1 _ rfl
  go_wp2
  have x : Blk _ w.heap.size #[.int .i64 x0, .slice A2 ((2 + x1).toNat - 2) ((2 + x1).toNat - 2)] 40 := blk_put (blk_put yr 0 (.int .i64 x0) rfl) 1 (.slice A2 ((2 + x1).toNat - 2) ((2 + x1).toNat - 2)) rfl
  have h0 := x.cell 0 _ rfl
  have h1 := x.cell 1 _ rfl
  refine bodyPost_ret (v := .tuple #[.agg #[.int .i64 x0, .slice A2 ((2 + x1).toNat - 2) ((2 + x1).toNat - 2)], .int .i64 0]) (by simp [results, Try.results36, go_sem, h0, h1]) rfl ⟨rfl, ?_, ?_, ?_⟩
  · exact blk_far (p := ⟨w.heap.size, 1, none⟩) (blk_far (p := ⟨w.heap.size, 0, none⟩) y0 (by simp; omega) _) (by simp; omega) _
  · exact (HB2.setCell (p := ⟨w.heap.size, 0, none⟩) (Nat.le_of_lt hbl) _).setCell (p := ⟨w.heap.size, 1, none⟩) (Nat.le_of_lt hbl) _
  · exact (HK.setCell (p := ⟨w.heap.size, 0, none⟩) (.inr (Nat.le_refl _)) _).setCell (p := ⟨w.heap.size, 1, none⟩) (.inr (Nat.le_refl _)) _
end Go.Proofs.Ytekgienbhpknlaa.G
