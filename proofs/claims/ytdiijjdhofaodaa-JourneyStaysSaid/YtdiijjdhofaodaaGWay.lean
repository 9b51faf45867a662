/- The iterator line.way: the stations from the lower to the higher one, each once, rising; and the look-up in the map of zones as a rule of the walk. Condition: both are stations. -/
import Derived.RangeFuncNested
import Derived.RangeFuncBound
import Derived.RangeFuncCalls
import Derived.RangeFuncLeaves
import Derived.RangeFuncBox
import Derived.Shelf.Abstract
import Derived.Shelf.RegionOpen
import Derived.WalkKit
import Derived.OwnWalkIn
import Derived.TacticsInMore
import Derived.LoopNIn
import Derived.LoopIn
import Derived.Test.YtdiijjdhofaodaaGTable
import Derived.Test.YtdiijjdhofaodaaWMore
namespace Go.Proofs.Ytdiijjdhofaodaa.G
open Go Go.RowKit Go.Shelf Go.Proofs.YtdiijjdhofaodaaW.PrintWords Go.Proofs.YtdiijjdhofaodaaW.PrintLast Go.Proofs.YtdiijjdhofaodaaW.PrintMore

/-! ### the map of zones, in whatever world it lies -/
/-- Block b is the map of all zones. -/
def TabAt (w : World) (b : Nat) : Prop := TabOk w b 40
theorem tab_block {w w' : World} {b : Nat} (h : TabAt w b) (hb : ∀ o, w.heap[b]? = some o → w'.heap[b]? = w.heap[b]?) : TabAt w' b := by
  obtain ⟨D, ⟨es, clock, hes, F, hn, hD⟩, hM, ha, hh⟩ := h
  exact ⟨D, ⟨es, clock, (hb _ hes).trans hes, F, hn, hD⟩, hM, ha, hh⟩
theorem TabAt.lt {w : World} {b : Nat} (h : TabAt w b) : b < w.heap.size := by
  obtain ⟨D, hown, _⟩ := h
  exact hown.lt
theorem tabAt_drew {w : World} {b : Nat} (h : TabAt w b) : TabAt w.drew b := h
theorem tabAt_drewN {w : World} {b : Nat} (h : TabAt w b) (n : Nat) : TabAt (w.drewN n) b := h
theorem tabAt_alloc {w : World} {b : Nat} (h : TabAt w b) (o : Obj) : TabAt (w.alloc o) b := tab_block h fun _ _ => Below.heap_alloc w o b h.lt
theorem tabAt_setCell {w : World} {b : Nat} (h : TabAt w b) (p : Addr) (v : Value) : TabAt (w.setCell p v) b := by
  obtain ⟨D, ⟨es, clock, hes, F, hn, hD⟩, hM, ha, hh⟩ := h
  refine ⟨D, ⟨es, clock, ?_, F, hn, hD⟩, hM, ha, hh⟩
  by_cases hp : b = p.block
  · subst hp
    simp [World.setCell, Array.getElem?_modify, hes]
  · exact (Below.heap_setCell w p v b hp).trans hes
theorem TabAt.below {w w' : World} {b B : Nat} (h : TabAt w b) (hb : Below B w w') (hB : b < B) : TabAt w' b := tab_block h fun _ _ => hb.block b hB
theorem tab_lookup {w : World} {b : Nat} {s : Int} (h : TabAt w b) (h0 : 0 ≤ s) (h1 : s < 40) : (Instr.lookup 74 (.map (some b)) (.int .i64 s) false).run Try.prog w = .ok (.int .i64 (zv s)) w := by
  obtain ⟨D, hown, hM, ha, hh⟩ := h
  obtain ⟨c, hrun, hat, hwc⟩ := hown.lookup_int law3 Try.underlying74 Try.underlying3 (zero3 _) (Maps.keyOf_int_mk Try.underlying3 (wf_of (n := s) (by omega) (by omega)))
  have : (DataW.lit (H := Unit) (.int .i64 (zv s))) = .lit (.int .i64 c) := ((ha s _).trans (if_pos (by omega))).symm.trans hat
  injection this with this
  injection this with _ this
  rw [hrun, this]

theorem max2_mx (k k' : IntKind) (x y : Int) : Builtin.max2 (.int k x) (.int k' y) = pure (.int k (mx x y)) := max2_int k k' x y
theorem min2_mn (k k' : IntKind) (x y : Int) : Builtin.min2 (.int k x) (.int k' y) = pure (.int k (mn x y)) := min2_int k k' x y
theorem mn_val (a b : Int) : mn a b = if b < a then b else a := rfl

attribute [local go_sem] Oper.semAt_some
attribute [local go_sem] max2_mx min2_mn max_two min_two

/-- What a round must keep for the iterator: its two boxes. -/
def Kab (Ba : Nat) (W W' : World) : Prop := W'.heap[Ba]? = W.heap[Ba]? ∧ W'.heap[Ba + 1]? = W.heap[Ba + 1]?
theorem Kab.tr {Ba : Nat} {A B C : World} (h : Kab Ba A B) (k : Kab Ba B C) : Kab Ba A C := ⟨k.1.trans h.1, k.2.trans h.2⟩
theorem kab_put {Ba : Nat} {w : World} (hB : Ba + 1 < w.heap.size) (W : World) (l : Nat) (o o' : Obj) (hl : w.heap.size ≤ l) (_ : W.heap[l]? = some o) (_ : o.isCells = false) (_ : o.isWalk = false) : Kab Ba W (W.putObj l o') :=
  ⟨World.putObj_heap_other (by omega), World.putObj_heap_other (by omega)⟩
/-- How many stations are on the way. -/
def many (a b : Int) : Nat := (mx a b - mn a b + 1).toNat
/-- The j-th of them. -/
def stn (a b : Int) (j : Nat) : Int := (mn a b + (j : Int)) % 40
theorem stn_range (a b : Int) (j : Nat) : 0 ≤ stn a b j ∧ stn a b j < 40 := by unfold stn; omega
theorem ends_range {a b : Int} (ha0 : 0 ≤ a) (ha1 : a < 40) (hb0 : 0 ≤ b) (hb1 : b < 40) : 0 ≤ mn a b ∧ mn a b ≤ mx a b ∧ mx a b < 40 := by
  rw [mn_val, mx_val]
  split <;> split <;> omega
set_option maxRecDepth 100000 in
set_option maxHeartbeats 1000000 in
theorem way1_in (F : Fence) (n : Nat) (h39 : F.fn 75) (hro : F.round = none) (hn : 1 ≤ n) (l Ba : Nat) (a b : Int) (ha0 : 0 ≤ a) (ha1 : a < 40) (hb0 : 0 ≤ b) (hb1 : b < 40)
    (J Jx : List Nat → World → Prop)
    (hY : ∀ pre x W, J pre W → pre.length < many a b → YieldAt F (n - 1) Try.prog l #[.int .i64 (stn a b x)] W fun e W' =>
      (e = .returned (.bool true) ∧ J (pre ++ [x]) W' ∧ Kab Ba W W') ∨ (e = .returned (.bool false) ∧ Jx (pre ++ [x]) W'))
    (W : World) (hA : Boxed W Ba 3 (.int .i64 a)) (hB : Boxed W (Ba + 1) 3 (.int .i64 b)) (h0 : J [] W) :
    CallsIn F n Try.prog 75 #[.func (.yield l) #[] #[], .pointer (some ⟨Ba, 0, none⟩), .pointer (some ⟨Ba + 1, 0, none⟩)] W fun e W' => (∃ v, e = .returned v) ∧
      ((∃ ys, ys = List.range (many a b) ∧ J ys W') ∨ (∃ pre, True ∧ Jx pre W')) := by
  obtain ⟨e0, e1, e2⟩ := ends_range ha0 ha1 hb0 hb1
  have hM0 : many a b = (mx a b - mn a b + 1).toNat := rfl
  have HM := Lib.hid hM0
  clear hM0
  refine callsIn_of_wp Try.func75 rfl h39 ?_ hro
  simp only [Try.ntmps75, List.size_toArray, List.length_cons, List.length_nil, Nat.reduceAdd, Nat.reduceSub, Array.replicate_succ, Array.replicate_zero, List.push_toArray, List.append_toArray, List.nil_append, List.cons_append]
  have hca := hA.cell
  have hcb := hB.cell
  gi_wp2
  gi_loopw [4] (fun s wr => ∃ k : Nat, k ≤ many a b ∧ s = .int .i64 (mn a b + (k : Int)) ∧ J (List.range k) wr ∧ Kab Ba W wr) (fun s _ => (mx a b + 1 - intOf s).toNat)
  case atStart => exact ⟨0, by omega, by go_num, h0, rfl, rfl⟩
  case round =>
    obtain ⟨k, hk, rfl, hJ, hK⟩ := hrel
    have hA' : Boxed wr Ba 3 (.int .i64 a) := hK.1.trans hA
    have hB' : Boxed wr (Ba + 1) 3 (.int .i64 b) := hK.2.trans hB
    clear hca hcb
    have hca := hA'.cell
    have hcb := hB'.cell
    by_cases hlt : k < many a b
    · have hle : mn a b + (k : Int) ≤ mx a b := by have := HM.out; omega
      obtain ⟨fn, tmps, assign, body, hy, hR⟩ := hY (List.range k) k wr hJ (by simpa using hlt)
      rw [show stn a b k = mn a b + (k : Int) by unfold stn; omega] at hy
      gi_wp2
      refine hR.mono ?_
      rintro e W3 (⟨rfl, hJ3, hk3⟩ | ⟨rfl, hJx3⟩)
      · gi_wp2
        go_roundw
        case rel => exact ⟨k + 1, by omega, by go_num, by rw [List.range_succ]; exact hJ3, hK.tr hk3⟩
        case measure => simp [intOf]; omega
      · gi_wp2
        refine bodyPost_ret (results_none rfl _ _ _) rfl ?_
        exact ⟨⟨_, rfl⟩, .inr ⟨_, trivial, hJx3⟩⟩
    · have hgt : mx a b < mn a b + (k : Int) := by have := HM.out; omega
      have hkm : k = many a b := by omega
      have HK := Lib.hid hkm
      clear hkm hlt hk
      gi_wp2
      go_end0
      exact ⟨⟨_, rfl⟩, .inl ⟨_, rfl, by rw [← HK.out]; exact hJ⟩⟩
set_option maxHeartbeats 1000000 in
theorem way_in (F : Fence) (n : Nat) (h36 : F.fn 67) (hro : F.round = none) (a b : Int) (w : World) :
    CallsIn F n Try.prog 67 #[.int .i64 a, .int .i64 b] w fun e w' => e = .returned (.func (.func 75) #[] #[.pointer (some ⟨w.heap.size, 0, none⟩), .pointer (some ⟨w.heap.size + 1, 0, none⟩)]) ∧
      w' = (w.alloc (.cells #[.int .i64 a] 3)).alloc (.cells #[.int .i64 b] 3) := by
  refine callsIn_of_wp Try.func67 rfl h36 ?_ hro
  simp only [Try.ntmps67, List.size_toArray, List.length_cons, List.length_nil, Nat.reduceAdd, Nat.reduceSub, Array.replicate_succ, Array.replicate_zero, List.push_toArray, List.append_toArray, List.nil_append, List.cons_append]
  gi_wp2
  go_ret
  exact ⟨rfl, rfl⟩
theorem way_stops (F : Fence) (n : Nat) (h39 : F.fn 75) (hro : F.round = none) (hn : 1 ≤ n) (Ba : Nat) (a b : Int) (ha0 : 0 ≤ a) (ha1 : a < 40) (hb0 : 0 ≤ b) (hb1 : b < 40) (w : World)
    (hA : Boxed w Ba 3 (.int .i64 a)) (hB : Boxed w (Ba + 1) 3 (.int .i64 b)) :
    SeqStopsK F n Try.prog 75 #[.pointer (some ⟨Ba, 0, none⟩), .pointer (some ⟨Ba + 1, 0, none⟩)] (fun j : Nat => #[Value.int .i64 (stn a b j)]) (Kab Ba) (fun ys => ys = List.range (many a b)) (fun _ => True) (many a b) w :=
  fun l J Jx W hW _ _ hY h0 => way1_in F n h39 hro hn l Ba a b ha0 ha1 hb0 hb1 J Jx hY W ((hW.block Ba hA.lt).trans hA) ((hW.block (Ba + 1) hB.lt).trans hB) h0
end Go.Proofs.Ytdiijjdhofaodaa.G
