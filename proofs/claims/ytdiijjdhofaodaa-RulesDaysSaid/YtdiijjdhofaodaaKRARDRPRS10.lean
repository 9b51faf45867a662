/- What the functions that this claim reaches do and answer: printed words and walks, walks by hand and plain laws, packed together, each with its own remark; printed rows are by the kit's print program, turned by this session. Conditions: those that each theorem states. -/
import Derived.Deep.Strs
import Derived.LoopN
import Derived.WalkMore
import Derived.Test.YtdiijjdhofaodaaKA0
import Derived.Test.YtdiijjdhofaodaaKA1
section
namespace Go.Proofs.Ytdiijjdhofaodaa.G
open Go Go.RowKit Go.ChangeShapes Go.WideShapes
theorem array_14 {cs : Array Value} (hs : cs.size = 14) {v0 v1 v2 v3 v4 v5 v6 v7 v8 v9 v10 v11 v12 v13 : Value} (h0 : cs[0]? = some v0) (h1 : cs[1]? = some v1) (h2 : cs[2]? = some v2) (h3 : cs[3]? = some v3) (h4 : cs[4]? = some v4) (h5 : cs[5]? = some v5) (h6 : cs[6]? = some v6) (h7 : cs[7]? = some v7) (h8 : cs[8]? = some v8) (h9 : cs[9]? = some v9) (h10 : cs[10]? = some v10) (h11 : cs[11]? = some v11) (h12 : cs[12]? = some v12) (h13 : cs[13]? = some v13) :
    cs = #[v0, v1, v2, v3, v4, v5, v6, v7, v8, v9, v10, v11, v12, v13] := by
  apply Array.ext_getElem?
  intro i
  match i with
  | 0 => exact h0
  | 1 => exact h1
  | 2 => exact h2
  | 3 => exact h3
  | 4 => exact h4
  | 5 => exact h5
  | 6 => exact h6
  | 7 => exact h7
  | 8 => exact h8
  | 9 => exact h9
  | 10 => exact h10
  | 11 => exact h11
  | 12 => exact h12
  | 13 => exact h13
  | j + 14 =>
    rw [Array.getElem?_eq_none (by omega), Array.getElem?_eq_none (by simp)]
section
variable {H : Type} {enc : TypeId × Value → H} {P : Program} {w : World} {base : Nat} {spare : Nat → Bool} {held : Bool}
theorem trod_ints {fuel : Nat} {t : TypeId} {fs : Array Field} {m : Nat} {l : List Value} {x : DataW H × List MemPlace} (hs : P.underlying t = some (.struct fs)) (hone : intFields P fs m = true) (_ : l.length = m)
    (h : DataW.trod enc P w base spare held fuel t l = some x) : ∀ i, i < m → ∃ n, l[i]? = some (.int .i64 n) ∧ (Lit.int .i64 n).wf = true := by
  obtain ⟨xs, n, _, hx, hl, hxl, hq⟩ := DataW.trod_struct hs h
  intro i hi
  obtain ⟨f, h1, h2, h3, h4⟩ := intFields_of hone i hi
  have h5 := hq i f h1
  rw [h2, h3] at h5
  obtain ⟨y, hy⟩ : ∃ y, DataW.trod enc P w base spare held n f.type ((l.drop i).take 1) = some y := by
    have hi2 : i < fs.size := (Array.getElem?_eq_some_iff.1 h1).1
    exact ⟨xs[i]'(by omega), h5.trans (List.getElem?_eq_getElem (by omega))⟩
  obtain ⟨k, hk, _, hw⟩ := DataW.trod_int h4 hy
  refine ⟨k, ?_, hw⟩
  have h6 : ((l.drop i).take 1)[0]? = some (.int .i64 k) := by rw [hk]; rfl
  simpa [List.getElem?_take, List.getElem?_drop] using h6
theorem open_entry {r : Reach} {b0 : Nat} {t : TypeId} {f0 f1 f2 : Field} {fsT fsJ : Array Field} {v : Value} {d : DataW H} {ps : List MemPlace} (hs : P.underlying t = some (.struct #[f0, f1, f2]))
    (o0 : f0.offset = 0) (c0 : P.cellsOf f0.type = 11) (u0 : P.underlying f0.type = some (.struct fsT)) (i0 : intFields P fsT 11 = true) (o1 : f1.offset = 11) (c1 : P.cellsOf f1.type = 2) (u1 : P.underlying f1.type = some (.struct fsJ)) (i1 : intFields P fsJ 2 = true)
    (o2 : f2.offset = 13) (c2 : P.cellsOf f2.type = 1) (u2 : P.underlying f2.type = some .bool) (hC : P.cellsOf t = 14) (hv : Value.okWide P w r b0 t v) (h : DataW.Trod enc P w base spare held t v d ps) :
    ∃ (x0 x1 x2 x3 x4 x5 x6 x7 x8 x9 x10 x11 x12 : Int) (b : Bool), v = .agg #[.int .i64 x0, .int .i64 x1, .int .i64 x2, .int .i64 x3, .int .i64 x4, .int .i64 x5, .int .i64 x6, .int .i64 x7, .int .i64 x8, .int .i64 x9, .int .i64 x10, .int .i64 x11, .int .i64 x12, .bool b] ∧ (Lit.int .i64 x0).wf = true ∧ (Lit.int .i64 x1).wf = true ∧ (Lit.int .i64 x2).wf = true ∧ (Lit.int .i64 x3).wf = true ∧ (Lit.int .i64 x4).wf = true ∧ (Lit.int .i64 x5).wf = true ∧ (Lit.int .i64 x6).wf = true ∧ (Lit.int .i64 x7).wf = true ∧ (Lit.int .i64 x8).wf = true ∧ (Lit.int .i64 x9).wf = true ∧ (Lit.int .i64 x10).wf = true ∧ (Lit.int .i64 x11).wf = true ∧ (Lit.int .i64 x12).wf = true := by
  obtain ⟨cs, rfl, hsz⟩ := okWide_struct hs hv
  rw [hC] at hsz
  obtain ⟨fuel, hf⟩ := h
  obtain ⟨y0, y1, y2, n, _, hl, h0, h1, h2⟩ := Go.Deep.trod_struct3 hs hf
  rw [o0, c0] at h0
  rw [o1, c1] at h1
  rw [o2, c2] at h2
  have hT : ∀ i, i < 11 → ∃ n, cs[i]? = some (.int .i64 n) ∧ (Lit.int .i64 n).wf = true := fun i hi => by
    obtain ⟨n, hn, hw⟩ := trod_ints u0 i0 (by simp [Value.cells]; omega) h0 i hi
    exact ⟨n, by simpa [Value.cells, List.getElem?_take, List.getElem?_drop, hi] using hn, hw⟩
  have hJ : ∀ i, i < 2 → ∃ n, cs[11 + i]? = some (.int .i64 n) ∧ (Lit.int .i64 n).wf = true := fun i hi => by
    obtain ⟨n, hn, hw⟩ := trod_ints u1 i1 (by simp [Value.cells]; omega) h1 i hi
    exact ⟨n, by simpa [Value.cells, List.getElem?_take, List.getElem?_drop, hi] using hn, hw⟩
  obtain ⟨b, hb, _⟩ := DataW.trod_bool u2 h2
  have hB : cs[13]? = some (.bool b) := by
    have h6 : (((Value.agg cs).cells.toList.drop 13).take 1)[0]? = some (.bool b) := by rw [hb]; rfl
    simpa [Value.cells, List.getElem?_take, List.getElem?_drop] using h6
  obtain ⟨x0, e0, w0⟩ := hT 0 (by omega)
  obtain ⟨x1, e1, w1⟩ := hT 1 (by omega)
  obtain ⟨x2, e2, w2⟩ := hT 2 (by omega)
  obtain ⟨x3, e3, w3⟩ := hT 3 (by omega)
  obtain ⟨x4, e4, w4⟩ := hT 4 (by omega)
  obtain ⟨x5, e5, w5⟩ := hT 5 (by omega)
  obtain ⟨x6, e6, w6⟩ := hT 6 (by omega)
  obtain ⟨x7, e7, w7⟩ := hT 7 (by omega)
  obtain ⟨x8, e8, w8⟩ := hT 8 (by omega)
  obtain ⟨x9, e9, w9⟩ := hT 9 (by omega)
  obtain ⟨x10, e10, w10⟩ := hT 10 (by omega)
  obtain ⟨x11, e11, w11⟩ := hJ 0 (by omega)
  obtain ⟨x12, e12, w12⟩ := hJ 1 (by omega)
  exact ⟨x0, x1, x2, x3, x4, x5, x6, x7, x8, x9, x10, x11, x12, b, by rw [array_14 hsz e0 e1 e2 e3 e4 e5 e6 e7 e8 e9 e10 e11 e12 hB], w0, w1, w2, w3, w4, w5, w6, w7, w8, w9, w10, w11, w12⟩
end
end Go.Proofs.Ytdiijjdhofaodaa.G
end
section
namespace Go.Proofs.Ytdiijjdhofaodaa.G
open Go Go.RowKit Go.Proofs.YtdiijjdhofaodaaW.PrintWords Go.Proofs.YtdiijjdhofaodaaW.PrintLast Go.Proofs.YtdiijjdhofaodaaW.PrintMore
def enA (y0 y1 y2 y3 y4 y5 y6 y7 y8 y9 y10 l i : Int) (bk : Bool) : Array Value := #[.int .i64 y0, .int .i64 y1, .int .i64 y2, .int .i64 y3, .int .i64 y4, .int .i64 y5, .int .i64 y6, .int .i64 y7, .int .i64 y8, .int .i64 y9, .int .i64 y10, .int .i64 l, .int .i64 i, .bool bk]
/-- What lies behind a call made over two boxes. -/
theorem two_boxes {w w1 : World} {c1 c2 : Array Value} {t1 t2 : TypeId} (hb : Below ((w.alloc (.cells c1 t1)).alloc (.cells c2 t2)).heap.size ((w.alloc (.cells c1 t1)).alloc (.cells c2 t2)) w1) :
    Blk w1 w.heap.size c1 t1 ∧ Blk w1 (w.heap.size + 1) c2 t2 ∧ Below w.heap.size w w1 := by
  refine ⟨Blk.below ((Blk.new w _ _).alloc _) hb (by simp only [World.size_alloc]; omega), Blk.below (b := w.heap.size + 1) (by simpa using Blk.new (w.alloc (.cells c1 t1)) c2 t2) hb (by simp only [World.size_alloc]; omega), ?_⟩
  exact (((Below.refl _ w).alloc (Nat.le_refl _) _).alloc (by simp) _).trans (hb.mono (by simp only [World.size_alloc]; omega))
theorem one_box {w w1 : World} {c1 : Array Value} {t1 : TypeId} (hb : Below (w.alloc (.cells c1 t1)).heap.size (w.alloc (.cells c1 t1)) w1) : Blk w1 w.heap.size c1 t1 ∧ Below w.heap.size w w1 :=
  ⟨Blk.below (Blk.new w _ _) hb (by simp only [World.size_alloc]; omega), ((Below.refl _ w).alloc (Nat.le_refl _) _).trans (hb.mono (by simp only [World.size_alloc]; omega))⟩
theorem Blk.entry {W : World} {b : Nat} {y0 y1 y2 y3 y4 y5 y6 y7 y8 y9 y10 l i : Int} {bk : Bool} {t : TypeId} (h : Blk W b (enA y0 y1 y2 y3 y4 y5 y6 y7 y8 y9 y10 l i bk) t) :
    W.cell? ⟨b, 0, none⟩ = some (.int .i64 y0) ∧ W.cell? ⟨b, 1, none⟩ = some (.int .i64 y1) ∧ W.cell? ⟨b, 2, none⟩ = some (.int .i64 y2) ∧ W.cell? ⟨b, 3, none⟩ = some (.int .i64 y3) ∧ W.cell? ⟨b, 4, none⟩ = some (.int .i64 y4) ∧ W.cell? ⟨b, 5, none⟩ = some (.int .i64 y5) ∧ W.cell? ⟨b, 6, none⟩ = some (.int .i64 y6) ∧ W.cell? ⟨b, 7, none⟩ = some (.int .i64 y7) ∧ W.cell? ⟨b, 8, none⟩ = some (.int .i64 y8) ∧ W.cell? ⟨b, 9, none⟩ = some (.int .i64 y9) ∧ W.cell? ⟨b, 10, none⟩ = some (.int .i64 y10) ∧ W.cell? ⟨b, 11, none⟩ = some (.int .i64 l) ∧ W.cell? ⟨b, 12, none⟩ = some (.int .i64 i) ∧ W.cell? ⟨b, 13, none⟩ = some (.bool bk) :=
  ⟨h.cell 0 _ rfl, h.cell 1 _ rfl, h.cell 2 _ rfl, h.cell 3 _ rfl, h.cell 4 _ rfl, h.cell 5 _ rfl, h.cell 6 _ rfl, h.cell 7 _ rfl, h.cell 8 _ rfl, h.cell 9 _ rfl, h.cell 10 _ rfl, h.cell 11 _ rfl, h.cell 12 _ rfl, h.cell 13 _ rfl⟩
set_option maxRecDepth 100000 in
set_option maxHeartbeats 1000000 in
theorem lis_e (y0 y1 y2 y3 y4 y5 y6 y7 y8 y9 y10 l i : Int) (bk : Bool) (w : World) : Calls Try.prog 42 #[.agg #[.int .i64 y0, .int .i64 y1, .int .i64 y2, .int .i64 y3, .int .i64 y4, .int .i64 y5, .int .i64 y6, .int .i64 y7, .int .i64 y8, .int .i64 y9, .int .i64 y10, .int .i64 l, .int .i64 i, .bool bk]] w fun e w' => e = .returned (.bool (jisB y0 y1 y2 y3 y4 y5 y6 y7 y8 y9 y10 l i)) ∧ Below w.heap.size w w' := by
  go_enter Try.func42, Try.ntmps42
  go_wp2_with (first
    | (go_at_call 22; refine (jis_any _ _ _ _ _ _ _ _ _ _ _ _ _ _).mono ?_; rintro e w1 ⟨rfl, hb⟩; have F1 := one_box hb; clear hb)
    | go_in)
  go_ret
  exact ⟨rfl, F1.2⟩
def lastR (x0 x1 x2 x3 x4 x5 x6 x7 x8 x9 x10 : Int) : Int × Int := if isB x0 x1 x2 x3 x4 x5 x6 x7 x8 x9 x10 = true then (x7 + x8 - 1, 0) else (0, 1)
theorem isB_days {x0 x1 x2 x3 x4 x5 x6 x7 x8 x9 x10 : Int} (h : isB x0 x1 x2 x3 x4 x5 x6 x7 x8 x9 x10 = true) : 0 ≤ x7 ∧ x7 ≤ 99999 ∧ 1 ≤ x8 ∧ x8 ≤ 999 ∧ 1 ≤ x1 ∧ x1 ≤ 4 := by
  unfold isB betw at h
  simp only [Bool.and_eq_true, decide_eq_true_eq] at h
  omega
set_option maxRecDepth 100000 in
set_option maxHeartbeats 1000000 in
theorem last_any (x0 x1 x2 x3 x4 x5 x6 x7 x8 x9 x10 : Int) (w : World) : Calls Try.prog 25 #[.agg #[.int .i64 x0, .int .i64 x1, .int .i64 x2, .int .i64 x3, .int .i64 x4, .int .i64 x5, .int .i64 x6, .int .i64 x7, .int .i64 x8, .int .i64 x9, .int .i64 x10]] w fun e w' => e = .returned (.tuple #[.int .i64 (lastR x0 x1 x2 x3 x4 x5 x6 x7 x8 x9 x10).1, .int .i64 (lastR x0 x1 x2 x3 x4 x5 x6 x7 x8 x9 x10).2]) ∧ Below w.heap.size w w' := by
  unfold lastR
  cases hI : isB x0 x1 x2 x3 x4 x5 x6 x7 x8 x9 x10
  · rw [if_neg (by decide)]
    go_enter Try.func25, Try.ntmps25
    go_wp2_with (first
      | (go_at_call 30; refine (is_any _ _ _ _ _ _ _ _ _ _ _ _).mono ?_; rintro e w1 ⟨rfl, hb⟩; rw [hI]; have F1 := one_box hb; clear hb)
      | go_in)
    go_ret2
    exact ⟨rfl, F1.2⟩
  · have hd := isB_days hI
    have e1 : wrap64 (x7 + x8) = x7 + x8 := tw64 (by omega) (by omega)
    have e2 : wrap64 (x7 + x8 - 1) = x7 + x8 - 1 := tw64 (by omega) (by omega)
    clear hd
    rw [if_pos rfl]
    go_enter Try.func25, Try.ntmps25
    go_wp2_with (first
      | (go_at_call 30; refine (is_any _ _ _ _ _ _ _ _ _ _ _ _).mono ?_; rintro e w1 ⟨rfl, hb⟩; rw [hI]; have F1 := one_box (c1 := tkA x0 x1 x2 x3 x4 x5 x6 x7 x8 x9 x10) hb; clear hb; obtain ⟨q0, q1, q2, q3, q4, q5, q6, q7, q8, q9, q10⟩ := F1.1.all)
      | go_in)
    go_ret2
    exact ⟨by simp [e1, e2], F1.2⟩
def dayR (x0 x1 x2 x3 x4 x5 x6 x7 x8 x9 x10 day : Int) (out : Bool) : Int × Int := if isB x0 x1 x2 x3 x4 x5 x6 x7 x8 x9 x10 = true then (if out = true then (0, 0) else (if day < x7 then (7, 0) else (if day > x7 + x8 - 1 then (8, 0) else (0, 0)))) else (0, 1)
set_option maxRecDepth 100000 in
set_option maxHeartbeats 1000000 in
theorem day_any (x0 x1 x2 x3 x4 x5 x6 x7 x8 x9 x10 day : Int) (out : Bool) (w : World) : Calls Try.prog 40 #[.agg #[.int .i64 x0, .int .i64 x1, .int .i64 x2, .int .i64 x3, .int .i64 x4, .int .i64 x5, .int .i64 x6, .int .i64 x7, .int .i64 x8, .int .i64 x9, .int .i64 x10], .int .i64 day, .bool out] w fun e w' => e = .returned (.tuple #[.int .i64 (dayR x0 x1 x2 x3 x4 x5 x6 x7 x8 x9 x10 day out).1, .int .i64 (dayR x0 x1 x2 x3 x4 x5 x6 x7 x8 x9 x10 day out).2]) ∧ Below w.heap.size w w' := by
  unfold dayR
  cases hI : isB x0 x1 x2 x3 x4 x5 x6 x7 x8 x9 x10
  · rw [if_neg (by decide)]
    have hL : lastR x0 x1 x2 x3 x4 x5 x6 x7 x8 x9 x10 = (0, 1) := if_neg (by rw [hI]; decide)
    go_enter Try.func40, Try.ntmps40
    go_wp2_with (first
      | (go_at_call 25; refine (last_any _ _ _ _ _ _ _ _ _ _ _ _).mono ?_; rintro e w1 ⟨rfl, hb⟩; rw [hL]; have F1 := one_box hb; clear hb)
      | go_in)
    go_ret2
    exact ⟨rfl, F1.2⟩
  · have hL : lastR x0 x1 x2 x3 x4 x5 x6 x7 x8 x9 x10 = (x7 + x8 - 1, 0) := if_pos hI
    rw [if_pos rfl]
    cases out
    · rw [if_neg (by decide)]
      by_cases h1 : day < x7
      · rw [if_pos h1]
        have d1 : decide (day < x7) = true := decide_eq_true h1
        go_enter Try.func40, Try.ntmps40
        go_wp2_with (first
          | (go_at_call 25; refine (last_any _ _ _ _ _ _ _ _ _ _ _ _).mono ?_; rintro e w1 ⟨rfl, hb⟩; rw [hL]; have F1 := one_box (c1 := tkA x0 x1 x2 x3 x4 x5 x6 x7 x8 x9 x10) hb; clear hb; obtain ⟨q0, q1, q2, q3, q4, q5, q6, q7, q8, q9, q10⟩ := F1.1.all)
          | go_in)
        go_ret2
        exact ⟨rfl, F1.2⟩
      · rw [if_neg h1]
        have d1 : decide (day < x7) = false := decide_eq_false h1
        by_cases h2 : day > x7 + x8 - 1
        · rw [if_pos h2]
          have d2 : decide (x7 + x8 - 1 < day) = true := decide_eq_true h2
          go_enter Try.func40, Try.ntmps40
          go_wp2_with (first
            | (go_at_call 25; refine (last_any _ _ _ _ _ _ _ _ _ _ _ _).mono ?_; rintro e w1 ⟨rfl, hb⟩; rw [hL]; have F1 := one_box (c1 := tkA x0 x1 x2 x3 x4 x5 x6 x7 x8 x9 x10) hb; clear hb; obtain ⟨q0, q1, q2, q3, q4, q5, q6, q7, q8, q9, q10⟩ := F1.1.all)
            | go_in)
          go_ret2
          exact ⟨rfl, F1.2⟩
        · rw [if_neg h2]
          have d2 : decide (x7 + x8 - 1 < day) = false := decide_eq_false h2
          go_enter Try.func40, Try.ntmps40
          go_wp2_with (first
            | (go_at_call 25; refine (last_any _ _ _ _ _ _ _ _ _ _ _ _).mono ?_; rintro e w1 ⟨rfl, hb⟩; rw [hL]; have F1 := one_box (c1 := tkA x0 x1 x2 x3 x4 x5 x6 x7 x8 x9 x10) hb; clear hb; obtain ⟨q0, q1, q2, q3, q4, q5, q6, q7, q8, q9, q10⟩ := F1.1.all)
            | go_in)
          go_ret2
          exact ⟨rfl, F1.2⟩
    · rw [if_pos rfl]
      go_enter Try.func40, Try.ntmps40
      go_wp2_with (first
        | (go_at_call 25; refine (last_any _ _ _ _ _ _ _ _ _ _ _ _).mono ?_; rintro e w1 ⟨rfl, hb⟩; rw [hL]; have F1 := one_box hb; clear hb)
        | go_in)
      go_ret2
      exact ⟨rfl, F1.2⟩
def sameT (y0 y1 y2 y3 y4 y5 y6 y7 y8 y9 y10 x0 x1 x2 x3 x4 x5 x6 x7 x8 x9 x10 : Int) : Bool := x0 == y0 && (x1 == y1 && (x2 == y2 && (x3 == y3 && (x4 == y4 && (x5 == y5 && (x6 == y6 && (x7 == y7 && (x8 == y8 && (x9 == y9 && (x10 == y10))))))))))
def sameR (y0 y1 y2 y3 y4 y5 y6 y7 y8 y9 y10 l i : Int) (bk : Bool) (x0 x1 x2 x3 x4 x5 x6 x7 x8 x9 x10 : Int) : Int × Int := if jisB y0 y1 y2 y3 y4 y5 y6 y7 y8 y9 y10 l i = true then (if bk = true then (4, 0) else (if sameT y0 y1 y2 y3 y4 y5 y6 y7 y8 y9 y10 x0 x1 x2 x3 x4 x5 x6 x7 x8 x9 x10 = true then (0, 0) else (5, 0))) else (0, 1)
theorem sameT_eq {y0 y1 y2 y3 y4 y5 y6 y7 y8 y9 y10 x0 x1 x2 x3 x4 x5 x6 x7 x8 x9 x10 : Int} (h : sameT y0 y1 y2 y3 y4 y5 y6 y7 y8 y9 y10 x0 x1 x2 x3 x4 x5 x6 x7 x8 x9 x10 = true) : x0 = y0 ∧ x1 = y1 ∧ x2 = y2 ∧ x3 = y3 ∧ x4 = y4 ∧ x5 = y5 ∧ x6 = y6 ∧ x7 = y7 ∧ x8 = y8 ∧ x9 = y9 ∧ x10 = y10 := by
  unfold sameT at h
  simp only [Bool.and_eq_true, beq_iff_eq] at h
  exact h
theorem eqT (d : Nat) (w : World) (x0 y0 : Int) (x1 y1 : Int) (x2 y2 : Int) (x3 y3 : Int) (x4 y4 : Int) (x5 y5 : Int) (x6 y6 : Int) (x7 y7 : Int) (x8 y8 : Int) (x9 y9 : Int) (x10 y10 : Int) : (Op.equalIn (d + 2) 23 (.agg #[.int .i64 x0, .int .i64 x1, .int .i64 x2, .int .i64 x3, .int .i64 x4, .int .i64 x5, .int .i64 x6, .int .i64 x7, .int .i64 x8, .int .i64 x9, .int .i64 x10]) (.agg #[.int .i64 y0, .int .i64 y1, .int .i64 y2, .int .i64 y3, .int .i64 y4, .int .i64 y5, .int .i64 y6, .int .i64 y7, .int .i64 y8, .int .i64 y9, .int .i64 y10])).run Try.prog w = .ok (x0 == y0 && (x1 == y1 && (x2 == y2 && (x3 == y3 && (x4 == y4 && (x5 == y5 && (x6 == y6 && (x7 == y7 && (x8 == y8 && (x9 == y9 && (x10 == y10))))))))))) w := by
  refine eqA_of Try.underlying23 (by kernel_rfl) ?_
  refine eqf_cons (by rfl) (by go_simp; rfl) (by go_simp; rfl) (by go_simp) ?_
  refine eqf_cons (by rfl) (by go_simp; rfl) (by go_simp; rfl) (by go_simp) ?_
  refine eqf_cons (by rfl) (by go_simp; rfl) (by go_simp; rfl) (by go_simp) ?_
  refine eqf_cons (by rfl) (by go_simp; rfl) (by go_simp; rfl) (by go_simp) ?_
  refine eqf_cons (by rfl) (by go_simp; rfl) (by go_simp; rfl) (by go_simp) ?_
  refine eqf_cons (by rfl) (by go_simp; rfl) (by go_simp; rfl) (by go_simp) ?_
  refine eqf_cons (by rfl) (by go_simp; rfl) (by go_simp; rfl) (by go_simp) ?_
  refine eqf_cons (by rfl) (by go_simp; rfl) (by go_simp; rfl) (by go_simp) ?_
  refine eqf_cons (by rfl) (by go_simp; rfl) (by go_simp; rfl) (by go_simp) ?_
  refine eqf_cons (by rfl) (by go_simp; rfl) (by go_simp; rfl) (by go_simp) ?_
  exact eqf_last (by rfl) (by go_simp; rfl) (by go_simp; rfl) (by go_simp)
attribute [local go_sem high] eqT
set_option maxRecDepth 100000 in
set_option maxHeartbeats 4000000 in
theorem same_bad (y0 y1 y2 y3 y4 y5 y6 y7 y8 y9 y10 l i : Int) (bk : Bool) (x0 x1 x2 x3 x4 x5 x6 x7 x8 x9 x10 : Int) (w : World) (hJ : jisB y0 y1 y2 y3 y4 y5 y6 y7 y8 y9 y10 l i = false) : Calls Try.prog 38 #[.agg #[.int .i64 y0, .int .i64 y1, .int .i64 y2, .int .i64 y3, .int .i64 y4, .int .i64 y5, .int .i64 y6, .int .i64 y7, .int .i64 y8, .int .i64 y9, .int .i64 y10, .int .i64 l, .int .i64 i, .bool bk], .agg #[.int .i64 x0, .int .i64 x1, .int .i64 x2, .int .i64 x3, .int .i64 x4, .int .i64 x5, .int .i64 x6, .int .i64 x7, .int .i64 x8, .int .i64 x9, .int .i64 x10]] w fun e w' => e = .returned (.tuple #[.int .i64 0, .int .i64 1]) ∧ Below w.heap.size w w' := by
  go_enter Try.func38, Try.ntmps38
  go_wp2_with (first
    | (go_at_call 42; refine (lis_e _ _ _ _ _ _ _ _ _ _ _ _ _ _ _).mono ?_; rintro e w1 ⟨rfl, hb⟩; rw [hJ]; have F1 := two_boxes (c1 := enA y0 y1 y2 y3 y4 y5 y6 y7 y8 y9 y10 l i bk) (c2 := tkA x0 x1 x2 x3 x4 x5 x6 x7 x8 x9 x10) hb; clear hb; skip)
    | go_in)
  go_ret2
  exact ⟨rfl, F1.2.2⟩
set_option maxRecDepth 100000 in
set_option maxHeartbeats 4000000 in
theorem same_back (y0 y1 y2 y3 y4 y5 y6 y7 y8 y9 y10 l i : Int) (x0 x1 x2 x3 x4 x5 x6 x7 x8 x9 x10 : Int) (w : World) (hJ : jisB y0 y1 y2 y3 y4 y5 y6 y7 y8 y9 y10 l i = true) : Calls Try.prog 38 #[.agg #[.int .i64 y0, .int .i64 y1, .int .i64 y2, .int .i64 y3, .int .i64 y4, .int .i64 y5, .int .i64 y6, .int .i64 y7, .int .i64 y8, .int .i64 y9, .int .i64 y10, .int .i64 l, .int .i64 i, .bool true], .agg #[.int .i64 x0, .int .i64 x1, .int .i64 x2, .int .i64 x3, .int .i64 x4, .int .i64 x5, .int .i64 x6, .int .i64 x7, .int .i64 x8, .int .i64 x9, .int .i64 x10]] w fun e w' => e = .returned (.tuple #[.int .i64 4, .int .i64 0]) ∧ Below w.heap.size w w' := by
  go_enter Try.func38, Try.ntmps38
  go_wp2_with (first
    | (go_at_call 42; refine (lis_e _ _ _ _ _ _ _ _ _ _ _ _ _ _ _).mono ?_; rintro e w1 ⟨rfl, hb⟩; rw [hJ]; have F1 := two_boxes (c1 := enA y0 y1 y2 y3 y4 y5 y6 y7 y8 y9 y10 l i true) (c2 := tkA x0 x1 x2 x3 x4 x5 x6 x7 x8 x9 x10) hb; clear hb; obtain ⟨e0, e1, e2, e3, e4, e5, e6, e7, e8, e9, e10, e11, e12, e13⟩ := F1.1.entry)
    | go_in)
  go_ret2
  exact ⟨rfl, F1.2.2⟩
set_option maxRecDepth 100000 in
set_option maxHeartbeats 4000000 in
theorem same_void (y0 y1 y2 y3 y4 y5 y6 y7 y8 y9 y10 l i : Int) (x0 x1 x2 x3 x4 x5 x6 x7 x8 x9 x10 : Int) (w : World) (hJ : jisB y0 y1 y2 y3 y4 y5 y6 y7 y8 y9 y10 l i = true) (hT : sameT y0 y1 y2 y3 y4 y5 y6 y7 y8 y9 y10 x0 x1 x2 x3 x4 x5 x6 x7 x8 x9 x10 = false) : Calls Try.prog 38 #[.agg #[.int .i64 y0, .int .i64 y1, .int .i64 y2, .int .i64 y3, .int .i64 y4, .int .i64 y5, .int .i64 y6, .int .i64 y7, .int .i64 y8, .int .i64 y9, .int .i64 y10, .int .i64 l, .int .i64 i, .bool false], .agg #[.int .i64 x0, .int .i64 x1, .int .i64 x2, .int .i64 x3, .int .i64 x4, .int .i64 x5, .int .i64 x6, .int .i64 x7, .int .i64 x8, .int .i64 x9, .int .i64 x10]] w fun e w' => e = .returned (.tuple #[.int .i64 5, .int .i64 0]) ∧ Below w.heap.size w w' := by
  go_enter Try.func38, Try.ntmps38
  go_wp2_with (first
    | (go_at_call 42; refine (lis_e _ _ _ _ _ _ _ _ _ _ _ _ _ _ _).mono ?_; rintro e w1 ⟨rfl, hb⟩; rw [hJ]; have F1 := two_boxes (c1 := enA y0 y1 y2 y3 y4 y5 y6 y7 y8 y9 y10 l i false) (c2 := tkA x0 x1 x2 x3 x4 x5 x6 x7 x8 x9 x10) hb; clear hb; obtain ⟨q0, q1, q2, q3, q4, q5, q6, q7, q8, q9, q10⟩ := F1.2.1.all; obtain ⟨e0, e1, e2, e3, e4, e5, e6, e7, e8, e9, e10, e11, e12, e13⟩ := F1.1.entry)
    | go_in)
  all_goals first
    | (go_ret2; exact ⟨rfl, F1.2.2⟩)
    | (exfalso; unfold sameT at hT; simp_all)
set_option maxRecDepth 100000 in
set_option maxHeartbeats 4000000 in
theorem same_ok (y0 y1 y2 y3 y4 y5 y6 y7 y8 y9 y10 l i : Int) (w : World) (hJ : jisB y0 y1 y2 y3 y4 y5 y6 y7 y8 y9 y10 l i = true) : Calls Try.prog 38 #[.agg #[.int .i64 y0, .int .i64 y1, .int .i64 y2, .int .i64 y3, .int .i64 y4, .int .i64 y5, .int .i64 y6, .int .i64 y7, .int .i64 y8, .int .i64 y9, .int .i64 y10, .int .i64 l, .int .i64 i, .bool false], .agg #[.int .i64 y0, .int .i64 y1, .int .i64 y2, .int .i64 y3, .int .i64 y4, .int .i64 y5, .int .i64 y6, .int .i64 y7, .int .i64 y8, .int .i64 y9, .int .i64 y10]] w fun e w' => e = .returned (.tuple #[.int .i64 0, .int .i64 0]) ∧ Below w.heap.size w w' := by
  go_enter Try.func38, Try.ntmps38
  go_wp2_with (first
    | (go_at_call 42; refine (lis_e _ _ _ _ _ _ _ _ _ _ _ _ _ _ _).mono ?_; rintro e w1 ⟨rfl, hb⟩; rw [hJ]; have F1 := two_boxes (c1 := enA y0 y1 y2 y3 y4 y5 y6 y7 y8 y9 y10 l i false) (c2 := tkA y0 y1 y2 y3 y4 y5 y6 y7 y8 y9 y10) hb; clear hb; obtain ⟨q0, q1, q2, q3, q4, q5, q6, q7, q8, q9, q10⟩ := F1.2.1.all; obtain ⟨e0, e1, e2, e3, e4, e5, e6, e7, e8, e9, e10, e11, e12, e13⟩ := F1.1.entry)
    | go_in)
  go_ret2
  exact ⟨rfl, F1.2.2⟩
theorem same_any (y0 y1 y2 y3 y4 y5 y6 y7 y8 y9 y10 l i : Int) (bk : Bool) (x0 x1 x2 x3 x4 x5 x6 x7 x8 x9 x10 : Int) (w : World) : Calls Try.prog 38 #[.agg #[.int .i64 y0, .int .i64 y1, .int .i64 y2, .int .i64 y3, .int .i64 y4, .int .i64 y5, .int .i64 y6, .int .i64 y7, .int .i64 y8, .int .i64 y9, .int .i64 y10, .int .i64 l, .int .i64 i, .bool bk], .agg #[.int .i64 x0, .int .i64 x1, .int .i64 x2, .int .i64 x3, .int .i64 x4, .int .i64 x5, .int .i64 x6, .int .i64 x7, .int .i64 x8, .int .i64 x9, .int .i64 x10]] w fun e w' => e = .returned (.tuple #[.int .i64 (sameR y0 y1 y2 y3 y4 y5 y6 y7 y8 y9 y10 l i bk x0 x1 x2 x3 x4 x5 x6 x7 x8 x9 x10).1, .int .i64 (sameR y0 y1 y2 y3 y4 y5 y6 y7 y8 y9 y10 l i bk x0 x1 x2 x3 x4 x5 x6 x7 x8 x9 x10).2]) ∧ Below w.heap.size w w' := by
  unfold sameR
  cases hJ : jisB y0 y1 y2 y3 y4 y5 y6 y7 y8 y9 y10 l i
  · rw [if_neg (by decide)]
    exact same_bad y0 y1 y2 y3 y4 y5 y6 y7 y8 y9 y10 l i bk x0 x1 x2 x3 x4 x5 x6 x7 x8 x9 x10 w hJ
  · rw [if_pos rfl]
    cases bk
    · rw [if_neg (by decide)]
      cases hT : sameT y0 y1 y2 y3 y4 y5 y6 y7 y8 y9 y10 x0 x1 x2 x3 x4 x5 x6 x7 x8 x9 x10
      · rw [if_neg (by decide)]
        exact same_void y0 y1 y2 y3 y4 y5 y6 y7 y8 y9 y10 l i x0 x1 x2 x3 x4 x5 x6 x7 x8 x9 x10 w hJ hT
      · rw [if_pos rfl]
        obtain ⟨rfl, rfl, rfl, rfl, rfl, rfl, rfl, rfl, rfl, rfl, rfl⟩ := sameT_eq hT
        exact same_ok x0 x1 x2 x3 x4 x5 x6 x7 x8 x9 x10 l i w hJ
    · rw [if_pos rfl]
      exact same_back y0 y1 y2 y3 y4 y5 y6 y7 y8 y9 y10 l i x0 x1 x2 x3 x4 x5 x6 x7 x8 x9 x10 w hJ
end Go.Proofs.Ytdiijjdhofaodaa.G
end
section
namespace Go.Proofs.Ytdiijjdhofaodaa.PL
open Go.RowKit Go.Proofs.YtdiijjdhofaodaaW.PrintWords Go.Proofs.YtdiijjdhofaodaaW.PrintLast Go.Proofs.YtdiijjdhofaodaaW.PrintMore
attribute [local go_sem] max2_int min2_int max_two min_two max_three min_three max_four min_four   -- for this text's walks alone
set_option linter.unusedVariables false
set_option linter.unusedSimpArgs false

theorem eqA23 (d : Nat) (w : World) (x0 y0 : Int) (x1 y1 : Int) (x2 y2 : Int) (x3 y3 : Int) (x4 y4 : Int) (x5 y5 : Int) (x6 y6 : Int) (x7 y7 : Int) (x8 y8 : Int) (x9 y9 : Int) (x10 y10 : Int) :
    (Op.equalIn (d + 2) 23 (.agg #[.int .i64 x0, .int .i64 x1, .int .i64 x2, .int .i64 x3, .int .i64 x4, .int .i64 x5, .int .i64 x6, .int .i64 x7, .int .i64 x8, .int .i64 x9, .int .i64 x10]) (.agg #[.int .i64 y0, .int .i64 y1, .int .i64 y2, .int .i64 y3, .int .i64 y4, .int .i64 y5, .int .i64 y6, .int .i64 y7, .int .i64 y8, .int .i64 y9, .int .i64 y10])).run Try.prog w = .ok (x0 == y0 && (x1 == y1 && (x2 == y2 && (x3 == y3 && (x4 == y4 && (x5 == y5 && (x6 == y6 && (x7 == y7 && (x8 == y8 && (x9 == y9 && (x10 == y10))))))))))) w := by
  refine eqA_of Try.underlying23 (by kernel_rfl) ?_
  refine eqf_cons (by rfl) (by go_simp; rfl) (by go_simp; rfl) (by go_simp) ?_
  refine eqf_cons (by rfl) (by go_simp; rfl) (by go_simp; rfl) (by go_simp) ?_
  refine eqf_cons (by rfl) (by go_simp; rfl) (by go_simp; rfl) (by go_simp) ?_
  refine eqf_cons (by rfl) (by go_simp; rfl) (by go_simp; rfl) (by go_simp) ?_
  refine eqf_cons (by rfl) (by go_simp; rfl) (by go_simp; rfl) (by go_simp) ?_
  refine eqf_cons (by rfl) (by go_simp; rfl) (by go_simp; rfl) (by go_simp) ?_
  refine eqf_cons (by rfl) (by go_simp; rfl) (by go_simp; rfl) (by go_simp) ?_
  refine eqf_cons (by rfl) (by go_simp; rfl) (by go_simp; rfl) (by go_simp) ?_
  refine eqf_cons (by rfl) (by go_simp; rfl) (by go_simp; rfl) (by go_simp) ?_
  refine eqf_cons (by rfl) (by go_simp; rfl) (by go_simp; rfl) (by go_simp) ?_
  exact eqf_last (by rfl) (by go_simp; rfl) (by go_simp; rfl) (by go_simp)
end Go.Proofs.Ytdiijjdhofaodaa.PL
end
section
namespace Go.Proofs.Ytdiijjdhofaodaa.G
open Go Go.RowKit Go.Proofs.YtdiijjdhofaodaaW.PrintWords Go.Proofs.YtdiijjdhofaodaaW.PrintLast Go.Proofs.YtdiijjdhofaodaaW.PrintMore
/-- The six boxes of rules.Pass. -/
def Six (w W : World) (ce ct : Array Value) (day s : Int) (out : Bool) : Prop := Blk W w.heap.size ce 48 ∧ Blk W (w.heap.size + 1) ct 23 ∧ Blk W (w.heap.size + 1 + 1) #[.int .i64 day] 3 ∧ Blk W (w.heap.size + 1 + 1 + 1) #[.int .i64 s] 3 ∧ Blk W (w.heap.size + 1 + 1 + 1 + 1) #[.bool out] 4 ∧ Blk W (w.heap.size + 1 + 1 + 1 + 1 + 1) #[.int .i64 0, .int .i64 0] 25 ∧ Below w.heap.size w W
theorem Six.below {w W W' : World} {ce ct : Array Value} {day s : Int} {out : Bool} (h : Six w W ce ct day s out) (hb : Below W.heap.size W W') : Six w W' ce ct day s out :=
  ⟨h.1.below hb h.1.lt, h.2.1.below hb h.2.1.lt, h.2.2.1.below hb h.2.2.1.lt, h.2.2.2.1.below hb h.2.2.2.1.lt, h.2.2.2.2.1.below hb h.2.2.2.2.1.lt, h.2.2.2.2.2.1.below hb h.2.2.2.2.2.1.lt, h.2.2.2.2.2.2.trans (hb.mono h.2.2.2.2.2.2.size)⟩
theorem Six.alloc {w W : World} {ce ct : Array Value} {day s : Int} {out : Bool} (h : Six w W ce ct day s out) (o : Obj) : Six w (W.alloc o) ce ct day s out := h.below (below_alloc (Below.refl _ _) o)
theorem Six.first (w : World) (ce ct : Array Value) (day s : Int) (out : Bool) : Six w ((((((w.alloc (.cells ce 48)).alloc (.cells ct 23)).alloc (.cells #[.int .i64 day] 3)).alloc (.cells #[.int .i64 s] 3)).alloc (.cells #[.bool out] 4)).alloc (.cells #[.int .i64 0, .int .i64 0] 25)) ce ct day s out := by
  refine ⟨((((((Blk.new w _ _).alloc _).alloc _).alloc _).alloc _).alloc _), (((((by simpa using Blk.new (w.alloc (.cells ce 48)) ct 23 : Blk ((w.alloc (.cells ce 48)).alloc (.cells ct 23)) (w.heap.size + 1) ct 23).alloc _).alloc _).alloc _).alloc _),
    ((((by simpa using Blk.new ((w.alloc (.cells ce 48)).alloc (.cells ct 23)) #[.int .i64 day] 3 : Blk (((w.alloc (.cells ce 48)).alloc (.cells ct 23)).alloc (.cells #[.int .i64 day] 3)) (w.heap.size + 1 + 1) #[.int .i64 day] 3).alloc _).alloc _).alloc _),
    (((by simpa using Blk.new (((w.alloc (.cells ce 48)).alloc (.cells ct 23)).alloc (.cells #[.int .i64 day] 3)) #[.int .i64 s] 3 : Blk ((((w.alloc (.cells ce 48)).alloc (.cells ct 23)).alloc (.cells #[.int .i64 day] 3)).alloc (.cells #[.int .i64 s] 3)) (w.heap.size + 1 + 1 + 1) #[.int .i64 s] 3).alloc _).alloc _),
    ((by simpa using Blk.new ((((w.alloc (.cells ce 48)).alloc (.cells ct 23)).alloc (.cells #[.int .i64 day] 3)).alloc (.cells #[.int .i64 s] 3)) #[.bool out] 4 : Blk (((((w.alloc (.cells ce 48)).alloc (.cells ct 23)).alloc (.cells #[.int .i64 day] 3)).alloc (.cells #[.int .i64 s] 3)).alloc (.cells #[.bool out] 4)) (w.heap.size + 1 + 1 + 1 + 1) #[.bool out] 4).alloc _),
    (by simpa using Blk.new (((((w.alloc (.cells ce 48)).alloc (.cells ct 23)).alloc (.cells #[.int .i64 day] 3)).alloc (.cells #[.int .i64 s] 3)).alloc (.cells #[.bool out] 4)) #[.int .i64 0, .int .i64 0] 25 : Blk ((((((w.alloc (.cells ce 48)).alloc (.cells ct 23)).alloc (.cells #[.int .i64 day] 3)).alloc (.cells #[.int .i64 s] 3)).alloc (.cells #[.bool out] 4)).alloc (.cells #[.int .i64 0, .int .i64 0] 25)) (w.heap.size + 1 + 1 + 1 + 1 + 1) #[.int .i64 0, .int .i64 0] 25), ?_⟩
  exact below_alloc (below_alloc (below_alloc (below_alloc (below_alloc (below_alloc (Below.refl _ _) _) _) _) _) _) _
/-- Behind the two stores of a result. -/
theorem p_put {w W : World} {n : Nat} {u v : Value} {t : TypeId} (a b : Value) (h : Blk W n #[u, v] t) (hB : Below w.heap.size w W) (hn : w.heap.size ≤ n) : Blk ((W.setCell ⟨n, 0, none⟩ a).setCell ⟨n, 1, none⟩ b) n #[a, b] t ∧ Below w.heap.size w ((W.setCell ⟨n, 0, none⟩ a).setCell ⟨n, 1, none⟩ b) :=
  ⟨blk_put (blk_put h 0 a rfl) 1 b rfl, (hB.setCell (p := ⟨n, 0, none⟩) hn a).setCell (p := ⟨n, 1, none⟩) hn b⟩
theorem blk_set2 {W : World} {b jb : Nat} {cs : Array Value} {t : TypeId} (h : Blk W b cs t) (hj : b ≠ jb) (u v : Value) : Blk ((W.setCell ⟨jb, 0, none⟩ u).setCell ⟨jb, 1, none⟩ v) b cs t := blk_far (p := ⟨jb, 1, none⟩) (blk_far (p := ⟨jb, 0, none⟩) h hj u) hj v
theorem Six.set {w W : World} {ce ct : Array Value} {day s : Int} {out : Bool} {jb : Nat} (h : Six w W ce ct day s out) (hj : w.heap.size + 1 + 1 + 1 + 1 + 1 < jb) (u v : Value) : Six w ((W.setCell ⟨jb, 0, none⟩ u).setCell ⟨jb, 1, none⟩ v) ce ct day s out :=
  ⟨blk_set2 h.1 (by omega) u v, blk_set2 h.2.1 (by omega) u v, blk_set2 h.2.2.1 (by omega) u v, blk_set2 h.2.2.2.1 (by omega) u v, blk_set2 h.2.2.2.2.1 (by omega) u v, blk_set2 h.2.2.2.2.2.1 (by omega) u v, (h.2.2.2.2.2.2.setCell (p := ⟨jb, 0, none⟩) (by simp only; omega) u).setCell (p := ⟨jb, 1, none⟩) (by simp only; omega) v⟩
def fns (n jb : Nat) : Array Value := #[.func (.func 68) #[] #[.pointer (some ⟨n, 0, none⟩), .pointer (some ⟨n + 1, 0, none⟩)], .func (.func 69) #[] #[.pointer (some ⟨n + 1, 0, none⟩), .pointer (some ⟨n + 1 + 1, 0, none⟩), .pointer (some ⟨n + 1 + 1 + 1 + 1, 0, none⟩)], .func (.func 70) #[] #[.pointer (some ⟨n + 1 + 1 + 1 + 1, 0, none⟩), .pointer (some ⟨n + 1, 0, none⟩), .pointer (some ⟨n, 0, none⟩), .pointer (some ⟨n + 1 + 1 + 1, 0, none⟩), .pointer (some ⟨jb, 0, none⟩)]]
theorem fns_cells {W : World} {b n jb : Nat} {t : TypeId} (h : Blk W b (fns n jb) t) : W.cell? ⟨b, 0, none⟩ = some (.func (.func 68) #[] #[.pointer (some ⟨n, 0, none⟩), .pointer (some ⟨n + 1, 0, none⟩)]) ∧ W.cell? ⟨b, 1, none⟩ = some (.func (.func 69) #[] #[.pointer (some ⟨n + 1, 0, none⟩), .pointer (some ⟨n + 1 + 1, 0, none⟩), .pointer (some ⟨n + 1 + 1 + 1 + 1, 0, none⟩)]) ∧ W.cell? ⟨b, 2, none⟩ = some (.func (.func 70) #[] #[.pointer (some ⟨n + 1 + 1 + 1 + 1, 0, none⟩), .pointer (some ⟨n + 1, 0, none⟩), .pointer (some ⟨n, 0, none⟩), .pointer (some ⟨n + 1 + 1 + 1, 0, none⟩), .pointer (some ⟨jb, 0, none⟩)]) := ⟨h.cell 0 _ rfl, h.cell 1 _ rfl, h.cell 2 _ rfl⟩
set_option maxRecDepth 100000 in
set_option maxHeartbeats 4000000 in
theorem pass_bad (y0 y1 y2 y3 y4 y5 y6 y7 y8 y9 y10 l i : Int) (bk : Bool) (x0 x1 x2 x3 x4 x5 x6 x7 x8 x9 x10 day s : Int) (out : Bool) (w : World) (hJ : jisB y0 y1 y2 y3 y4 y5 y6 y7 y8 y9 y10 l i = false) :
    Calls Try.prog 35 #[.agg #[.int .i64 y0, .int .i64 y1, .int .i64 y2, .int .i64 y3, .int .i64 y4, .int .i64 y5, .int .i64 y6, .int .i64 y7, .int .i64 y8, .int .i64 y9, .int .i64 y10, .int .i64 l, .int .i64 i, .bool bk], .agg #[.int .i64 x0, .int .i64 x1, .int .i64 x2, .int .i64 x3, .int .i64 x4, .int .i64 x5, .int .i64 x6, .int .i64 x7, .int .i64 x8, .int .i64 x9, .int .i64 x10], .int .i64 day, .int .i64 s, .bool out] w fun e w' => e = .returned (.tuple #[.agg #[.int .i64 0, .int .i64 0], .int .i64 0, .int .i64 1]) ∧ Below w.heap.size w w' := by
  go_enter Try.func35, Try.ntmps35
  go_wp2
  go_step3
  go_wp2_with (first
    | (go_at_call 42; refine (lis_e _ _ _ _ _ _ _ _ _ _ _ _ _ _ _).mono ?_; rintro e w1 ⟨rfl, hb⟩; rw [hJ]; have F1 := (Six.first w (enA y0 y1 y2 y3 y4 y5 y6 y7 y8 y9 y10 l i bk) (tkA x0 x1 x2 x3 x4 x5 x6 x7 x8 x9 x10) day s out).below hb; clear hb; obtain ⟨e0, e1, e2, e3, e4, e5, e6, e7, e8, e9, e10, e11, e12, e13⟩ := F1.1.entry; obtain ⟨q0, q1, q2, q3, q4, q5, q6, q7, q8, q9, q10⟩ := F1.2.1.all; have d0 := F1.2.2.1.cell 0 _ rfl; have s0 := F1.2.2.2.1.cell 0 _ rfl; have o0 := F1.2.2.2.2.1.cell 0 _ rfl; have r0 := F1.2.2.2.2.2.1.cell 0 _ rfl; have r1 := F1.2.2.2.2.2.1.cell 1 _ rfl; have g0 := F1.2.2.2.2.2.1.frozen 0; have g1 := F1.2.2.2.2.2.1.frozen 1)
    | go_in)
  (try simp only [Exit.noGoto])
  show bodyPost _ _ _ Exit.ret _ (World.setCell (World.setCell ?W _ _) _ _)
  have x := p_put (.int .i64 (0)) (.int .i64 (0)) (F1.2.2.2.2.2.1 : Blk ?W _ _ _) F1.2.2.2.2.2.2 (by omega)
  have y0 := x.1.cell 0 _ rfl
  have y1 := x.1.cell 1 _ rfl
  refine bodyPost_ret (v := .tuple #[.agg #[.int .i64 (0), .int .i64 (0)], .int .i64 0, .int .i64 1]) (by simp [results, Try.results35, go_sem, y0, y1]) rfl ⟨rfl, x.2⟩
set_option maxRecDepth 100000 in
set_option maxHeartbeats 4000000 in
theorem pass_off (y0 y1 y2 y3 y4 y5 y6 y7 y8 y9 y10 l i : Int) (bk : Bool) (x0 x1 x2 x3 x4 x5 x6 x7 x8 x9 x10 day s : Int) (out : Bool) (w : World) (hJ : jisB y0 y1 y2 y3 y4 y5 y6 y7 y8 y9 y10 l i = true) (hL : lisB s = false) :
    Calls Try.prog 35 #[.agg #[.int .i64 y0, .int .i64 y1, .int .i64 y2, .int .i64 y3, .int .i64 y4, .int .i64 y5, .int .i64 y6, .int .i64 y7, .int .i64 y8, .int .i64 y9, .int .i64 y10, .int .i64 l, .int .i64 i, .bool bk], .agg #[.int .i64 x0, .int .i64 x1, .int .i64 x2, .int .i64 x3, .int .i64 x4, .int .i64 x5, .int .i64 x6, .int .i64 x7, .int .i64 x8, .int .i64 x9, .int .i64 x10], .int .i64 day, .int .i64 s, .bool out] w fun e w' => e = .returned (.tuple #[.agg #[.int .i64 0, .int .i64 0], .int .i64 0, .int .i64 1]) ∧ Below w.heap.size w w' := by
  go_enter Try.func35, Try.ntmps35
  go_wp2
  go_step3
  go_wp2_with (first
    | (go_at_call 42; refine (lis_e _ _ _ _ _ _ _ _ _ _ _ _ _ _ _).mono ?_; rintro e w1 ⟨rfl, hb⟩; rw [hJ]; have F1 := (Six.first w (enA y0 y1 y2 y3 y4 y5 y6 y7 y8 y9 y10 l i bk) (tkA x0 x1 x2 x3 x4 x5 x6 x7 x8 x9 x10) day s out).below hb; clear hb; obtain ⟨e0, e1, e2, e3, e4, e5, e6, e7, e8, e9, e10, e11, e12, e13⟩ := F1.1.entry; obtain ⟨q0, q1, q2, q3, q4, q5, q6, q7, q8, q9, q10⟩ := F1.2.1.all; have d0 := F1.2.2.1.cell 0 _ rfl; have s0 := F1.2.2.2.1.cell 0 _ rfl; have o0 := F1.2.2.2.2.1.cell 0 _ rfl; have r0 := F1.2.2.2.2.2.1.cell 0 _ rfl; have r1 := F1.2.2.2.2.2.1.cell 1 _ rfl; have g0 := F1.2.2.2.2.2.1.frozen 0; have g1 := F1.2.2.2.2.2.1.frozen 1)
    | (go_at_call 43; refine (lis_any _ _).mono ?_; rintro e w' ⟨rfl, rfl⟩; rw [hL])
    | go_in)
  (try simp only [Exit.noGoto])
  show bodyPost _ _ _ Exit.ret _ (World.setCell (World.setCell ?W _ _) _ _)
  have x := p_put (.int .i64 (0)) (.int .i64 (0)) (F1.2.2.2.2.2.1 : Blk ?W _ _ _) F1.2.2.2.2.2.2 (by omega)
  have y0 := x.1.cell 0 _ rfl
  have y1 := x.1.cell 1 _ rfl
  refine bodyPost_ret (v := .tuple #[.agg #[.int .i64 (0), .int .i64 (0)], .int .i64 0, .int .i64 1]) (by simp [results, Try.results35, go_sem, y0, y1]) rfl ⟨rfl, x.2⟩
set_option maxRecDepth 100000 in
set_option maxHeartbeats 4000000 in
theorem pass_same (y0 y1 y2 y3 y4 y5 y6 y7 y8 y9 y10 l i : Int) (bk : Bool) (x0 x1 x2 x3 x4 x5 x6 x7 x8 x9 x10 day s : Int) (out : Bool) (w : World) (a : Int) (hJ : jisB y0 y1 y2 y3 y4 y5 y6 y7 y8 y9 y10 l i = true) (hL : lisB s = true) (hS : sameR y0 y1 y2 y3 y4 y5 y6 y7 y8 y9 y10 l i bk x0 x1 x2 x3 x4 x5 x6 x7 x8 x9 x10 = (a, 0)) (ha : a ≠ 0) :
    Calls Try.prog 35 #[.agg #[.int .i64 y0, .int .i64 y1, .int .i64 y2, .int .i64 y3, .int .i64 y4, .int .i64 y5, .int .i64 y6, .int .i64 y7, .int .i64 y8, .int .i64 y9, .int .i64 y10, .int .i64 l, .int .i64 i, .bool bk], .agg #[.int .i64 x0, .int .i64 x1, .int .i64 x2, .int .i64 x3, .int .i64 x4, .int .i64 x5, .int .i64 x6, .int .i64 x7, .int .i64 x8, .int .i64 x9, .int .i64 x10], .int .i64 day, .int .i64 s, .bool out] w fun e w' => e = .returned (.tuple #[.agg #[.int .i64 l, .int .i64 i], .int .i64 a, .int .i64 0]) ∧ Below w.heap.size w w' := by
  go_enter Try.func35, Try.ntmps35
  go_wp2
  go_step3
  go_wp2_with (first
    | (go_at_call 42; refine (lis_e _ _ _ _ _ _ _ _ _ _ _ _ _ _ _).mono ?_; rintro e w1 ⟨rfl, hb⟩; rw [hJ]; have F1 := (Six.first w (enA y0 y1 y2 y3 y4 y5 y6 y7 y8 y9 y10 l i bk) (tkA x0 x1 x2 x3 x4 x5 x6 x7 x8 x9 x10) day s out).below hb; clear hb; obtain ⟨e0, e1, e2, e3, e4, e5, e6, e7, e8, e9, e10, e11, e12, e13⟩ := F1.1.entry; obtain ⟨q0, q1, q2, q3, q4, q5, q6, q7, q8, q9, q10⟩ := F1.2.1.all; have d0 := F1.2.2.1.cell 0 _ rfl; have s0 := F1.2.2.2.1.cell 0 _ rfl; have o0 := F1.2.2.2.2.1.cell 0 _ rfl; have r0 := F1.2.2.2.2.2.1.cell 0 _ rfl; have r1 := F1.2.2.2.2.2.1.cell 1 _ rfl; have g0 := F1.2.2.2.2.2.1.frozen 0; have g1 := F1.2.2.2.2.2.1.frozen 1)
    | (go_at_call 43; refine (lis_any _ _).mono ?_; rintro e w' ⟨rfl, rfl⟩; rw [hL])
    | go_in)
  have F2 := (F1.alloc (.cells #[.int .i64 l, .int .i64 i] 25)).alloc (.cells (fns w.heap.size w1.heap.size) 79)
  have F2J : Blk _ w1.heap.size #[.int .i64 l, .int .i64 i] 25 := (Blk.new w1 _ _).alloc (.cells (fns w.heap.size w1.heap.size) 79)
  have F2S : Blk _ (w1.heap.size + 1) (fns w.heap.size w1.heap.size) 79 := (by simpa using Blk.new (w1.alloc (.cells #[.int .i64 l, .int .i64 i] 25)) (fns w.heap.size w1.heap.size) 79 : Blk ((w1.alloc (.cells #[.int .i64 l, .int .i64 i] 25)).alloc (.cells (fns w.heap.size w1.heap.size) 79)) (w1.heap.size + 1) (fns w.heap.size w1.heap.size) 79)
  have hjb : w.heap.size + 1 + 1 + 1 + 1 + 1 < w1.heap.size := F1.2.2.2.2.2.1.lt
  clear e0 e1 e2 e3 e4 e5 e6 e7 e8 e9 e10 e11 e12 e13 q0 q1 q2 q3 q4 q5 q6 q7 q8 q9 q10 d0 s0 o0 r0 r1 g0 g1
  go_step3
  go_wp2
  generalize hW : (w1.alloc (.cells #[.int .i64 l, .int .i64 i] 25)).alloc (.cells (fns w.heap.size w1.heap.size) 79) = W2 at F2 F2J F2S
  unfold fns at hW
  rw [hW]
  clear hW
  obtain ⟨e0, e1, e2, e3, e4, e5, e6, e7, e8, e9, e10, e11, e12, e13⟩ := F2.1.entry; obtain ⟨q0, q1, q2, q3, q4, q5, q6, q7, q8, q9, q10⟩ := F2.2.1.all; have d0 := F2.2.2.1.cell 0 _ rfl; have s0 := F2.2.2.2.1.cell 0 _ rfl; have o0 := F2.2.2.2.2.1.cell 0 _ rfl; have r0 := F2.2.2.2.2.2.1.cell 0 _ rfl; have r1 := F2.2.2.2.2.2.1.cell 1 _ rfl; have g0 := F2.2.2.2.2.2.1.frozen 0; have g1 := F2.2.2.2.2.2.1.frozen 1; have j0 := F2J.cell 0 _ rfl; have j1 := F2J.cell 1 _ rfl; have h0_ := F2J.frozen 0; have h1_ := F2J.frozen 1; obtain ⟨c0_, c1_, c2_⟩ := fns_cells F2S
  refine wp_loop_rounds 4 ?_
  rw [rounds_succ]
  go_wp2_with (first
    | (go_at_call 38; refine (same_any _ _ _ _ _ _ _ _ _ _ _ _ _ _ _ _ _ _ _ _ _ _ _ _ _ _).mono ?_; rintro e w3 ⟨rfl, hb⟩; rw [hS]; have F3 := F2.below hb; have F3J := F2J.below hb F2J.lt; have F3S := F2S.below hb F2S.lt; clear hb; clear e0 e1 e2 e3 e4 e5 e6 e7 e8 e9 e10 e11 e12 e13 q0 q1 q2 q3 q4 q5 q6 q7 q8 q9 q10 d0 s0 o0 r0 r1 g0 g1; clear j0 j1 h0_ h1_ c0_ c1_ c2_; obtain ⟨e0, e1, e2, e3, e4, e5, e6, e7, e8, e9, e10, e11, e12, e13⟩ := F3.1.entry; obtain ⟨q0, q1, q2, q3, q4, q5, q6, q7, q8, q9, q10⟩ := F3.2.1.all; have d0 := F3.2.2.1.cell 0 _ rfl; have s0 := F3.2.2.2.1.cell 0 _ rfl; have o0 := F3.2.2.2.2.1.cell 0 _ rfl; have r0 := F3.2.2.2.2.2.1.cell 0 _ rfl; have r1 := F3.2.2.2.2.2.1.cell 1 _ rfl; have g0 := F3.2.2.2.2.2.1.frozen 0; have g1 := F3.2.2.2.2.2.1.frozen 1; have j0 := F3J.cell 0 _ rfl; have j1 := F3J.cell 1 _ rfl; have h0_ := F3J.frozen 0; have h1_ := F3J.frozen 1; obtain ⟨c0_, c1_, c2_⟩ := fns_cells F3S)
    | go_in)
  (try simp only [Exit.noGoto])
  show bodyPost _ _ _ Exit.ret _ (World.setCell (World.setCell ?W _ _) _ _)
  have x := p_put (.int .i64 (l)) (.int .i64 (i)) (F3.2.2.2.2.2.1 : Blk ?W _ _ _) F3.2.2.2.2.2.2 (by omega)
  have y0 := x.1.cell 0 _ rfl
  have y1 := x.1.cell 1 _ rfl
  refine bodyPost_ret (v := .tuple #[.agg #[.int .i64 (l), .int .i64 (i)], .int .i64 a, .int .i64 0]) (by simp [results, Try.results35, go_sem, y0, y1]) rfl ⟨rfl, x.2⟩
set_option maxRecDepth 100000 in
set_option maxHeartbeats 4000000 in
theorem pass_day (y0 y1 y2 y3 y4 y5 y6 y7 y8 y9 y10 l i : Int) (bk : Bool) (x0 x1 x2 x3 x4 x5 x6 x7 x8 x9 x10 day s : Int) (out : Bool) (w : World) (a : Int) (hJ : jisB y0 y1 y2 y3 y4 y5 y6 y7 y8 y9 y10 l i = true) (hL : lisB s = true) (hS : sameR y0 y1 y2 y3 y4 y5 y6 y7 y8 y9 y10 l i bk x0 x1 x2 x3 x4 x5 x6 x7 x8 x9 x10 = (0, 0)) (hD : dayR x0 x1 x2 x3 x4 x5 x6 x7 x8 x9 x10 day out = (a, 0)) (ha : a ≠ 0) :
    Calls Try.prog 35 #[.agg #[.int .i64 y0, .int .i64 y1, .int .i64 y2, .int .i64 y3, .int .i64 y4, .int .i64 y5, .int .i64 y6, .int .i64 y7, .int .i64 y8, .int .i64 y9, .int .i64 y10, .int .i64 l, .int .i64 i, .bool bk], .agg #[.int .i64 x0, .int .i64 x1, .int .i64 x2, .int .i64 x3, .int .i64 x4, .int .i64 x5, .int .i64 x6, .int .i64 x7, .int .i64 x8, .int .i64 x9, .int .i64 x10], .int .i64 day, .int .i64 s, .bool out] w fun e w' => e = .returned (.tuple #[.agg #[.int .i64 l, .int .i64 i], .int .i64 a, .int .i64 0]) ∧ Below w.heap.size w w' := by
  go_enter Try.func35, Try.ntmps35
  go_wp2
  go_step3
  go_wp2_with (first
    | (go_at_call 42; refine (lis_e _ _ _ _ _ _ _ _ _ _ _ _ _ _ _).mono ?_; rintro e w1 ⟨rfl, hb⟩; rw [hJ]; have F1 := (Six.first w (enA y0 y1 y2 y3 y4 y5 y6 y7 y8 y9 y10 l i bk) (tkA x0 x1 x2 x3 x4 x5 x6 x7 x8 x9 x10) day s out).below hb; clear hb; obtain ⟨e0, e1, e2, e3, e4, e5, e6, e7, e8, e9, e10, e11, e12, e13⟩ := F1.1.entry; obtain ⟨q0, q1, q2, q3, q4, q5, q6, q7, q8, q9, q10⟩ := F1.2.1.all; have d0 := F1.2.2.1.cell 0 _ rfl; have s0 := F1.2.2.2.1.cell 0 _ rfl; have o0 := F1.2.2.2.2.1.cell 0 _ rfl; have r0 := F1.2.2.2.2.2.1.cell 0 _ rfl; have r1 := F1.2.2.2.2.2.1.cell 1 _ rfl; have g0 := F1.2.2.2.2.2.1.frozen 0; have g1 := F1.2.2.2.2.2.1.frozen 1)
    | (go_at_call 43; refine (lis_any _ _).mono ?_; rintro e w' ⟨rfl, rfl⟩; rw [hL])
    | go_in)
  have F2 := (F1.alloc (.cells #[.int .i64 l, .int .i64 i] 25)).alloc (.cells (fns w.heap.size w1.heap.size) 79)
  have F2J : Blk _ w1.heap.size #[.int .i64 l, .int .i64 i] 25 := (Blk.new w1 _ _).alloc (.cells (fns w.heap.size w1.heap.size) 79)
  have F2S : Blk _ (w1.heap.size + 1) (fns w.heap.size w1.heap.size) 79 := (by simpa using Blk.new (w1.alloc (.cells #[.int .i64 l, .int .i64 i] 25)) (fns w.heap.size w1.heap.size) 79 : Blk ((w1.alloc (.cells #[.int .i64 l, .int .i64 i] 25)).alloc (.cells (fns w.heap.size w1.heap.size) 79)) (w1.heap.size + 1) (fns w.heap.size w1.heap.size) 79)
  have hjb : w.heap.size + 1 + 1 + 1 + 1 + 1 < w1.heap.size := F1.2.2.2.2.2.1.lt
  clear e0 e1 e2 e3 e4 e5 e6 e7 e8 e9 e10 e11 e12 e13 q0 q1 q2 q3 q4 q5 q6 q7 q8 q9 q10 d0 s0 o0 r0 r1 g0 g1
  go_step3
  go_wp2
  generalize hW : (w1.alloc (.cells #[.int .i64 l, .int .i64 i] 25)).alloc (.cells (fns w.heap.size w1.heap.size) 79) = W2 at F2 F2J F2S
  unfold fns at hW
  rw [hW]
  clear hW
  obtain ⟨e0, e1, e2, e3, e4, e5, e6, e7, e8, e9, e10, e11, e12, e13⟩ := F2.1.entry; obtain ⟨q0, q1, q2, q3, q4, q5, q6, q7, q8, q9, q10⟩ := F2.2.1.all; have d0 := F2.2.2.1.cell 0 _ rfl; have s0 := F2.2.2.2.1.cell 0 _ rfl; have o0 := F2.2.2.2.2.1.cell 0 _ rfl; have r0 := F2.2.2.2.2.2.1.cell 0 _ rfl; have r1 := F2.2.2.2.2.2.1.cell 1 _ rfl; have g0 := F2.2.2.2.2.2.1.frozen 0; have g1 := F2.2.2.2.2.2.1.frozen 1; have j0 := F2J.cell 0 _ rfl; have j1 := F2J.cell 1 _ rfl; have h0_ := F2J.frozen 0; have h1_ := F2J.frozen 1; obtain ⟨c0_, c1_, c2_⟩ := fns_cells F2S
  refine wp_loop_rounds 4 ?_
  rw [rounds_succ]
  go_wp2_with (first
    | (go_at_call 38; refine (same_any _ _ _ _ _ _ _ _ _ _ _ _ _ _ _ _ _ _ _ _ _ _ _ _ _ _).mono ?_; rintro e w3 ⟨rfl, hb⟩; rw [hS]; have F3 := F2.below hb; have F3J := F2J.below hb F2J.lt; have F3S := F2S.below hb F2S.lt; clear hb; clear e0 e1 e2 e3 e4 e5 e6 e7 e8 e9 e10 e11 e12 e13 q0 q1 q2 q3 q4 q5 q6 q7 q8 q9 q10 d0 s0 o0 r0 r1 g0 g1; clear j0 j1 h0_ h1_ c0_ c1_ c2_; obtain ⟨e0, e1, e2, e3, e4, e5, e6, e7, e8, e9, e10, e11, e12, e13⟩ := F3.1.entry; obtain ⟨q0, q1, q2, q3, q4, q5, q6, q7, q8, q9, q10⟩ := F3.2.1.all; have d0 := F3.2.2.1.cell 0 _ rfl; have s0 := F3.2.2.2.1.cell 0 _ rfl; have o0 := F3.2.2.2.2.1.cell 0 _ rfl; have r0 := F3.2.2.2.2.2.1.cell 0 _ rfl; have r1 := F3.2.2.2.2.2.1.cell 1 _ rfl; have g0 := F3.2.2.2.2.2.1.frozen 0; have g1 := F3.2.2.2.2.2.1.frozen 1; have j0 := F3J.cell 0 _ rfl; have j1 := F3J.cell 1 _ rfl; have h0_ := F3J.frozen 0; have h1_ := F3J.frozen 1; obtain ⟨c0_, c1_, c2_⟩ := fns_cells F3S)
    | go_in)
  rw [rounds_succ]
  go_wp2_with (first
    | (go_at_call 40; refine (day_any _ _ _ _ _ _ _ _ _ _ _ _ _ _).mono ?_; rintro e w4 ⟨rfl, hb⟩; rw [hD]; have F4 := F3.below hb; have F4J := F3J.below hb F3J.lt; have F4S := F3S.below hb F3S.lt; clear hb; clear e0 e1 e2 e3 e4 e5 e6 e7 e8 e9 e10 e11 e12 e13 q0 q1 q2 q3 q4 q5 q6 q7 q8 q9 q10 d0 s0 o0 r0 r1 g0 g1; clear j0 j1 h0_ h1_ c0_ c1_ c2_; obtain ⟨e0, e1, e2, e3, e4, e5, e6, e7, e8, e9, e10, e11, e12, e13⟩ := F4.1.entry; obtain ⟨q0, q1, q2, q3, q4, q5, q6, q7, q8, q9, q10⟩ := F4.2.1.all; have d0 := F4.2.2.1.cell 0 _ rfl; have s0 := F4.2.2.2.1.cell 0 _ rfl; have o0 := F4.2.2.2.2.1.cell 0 _ rfl; have r0 := F4.2.2.2.2.2.1.cell 0 _ rfl; have r1 := F4.2.2.2.2.2.1.cell 1 _ rfl; have g0 := F4.2.2.2.2.2.1.frozen 0; have g1 := F4.2.2.2.2.2.1.frozen 1; have j0 := F4J.cell 0 _ rfl; have j1 := F4J.cell 1 _ rfl; have h0_ := F4J.frozen 0; have h1_ := F4J.frozen 1; obtain ⟨c0_, c1_, c2_⟩ := fns_cells F4S)
    | go_in)
  (try simp only [Exit.noGoto])
  show bodyPost _ _ _ Exit.ret _ (World.setCell (World.setCell ?W _ _) _ _)
  have x := p_put (.int .i64 (l)) (.int .i64 (i)) (F4.2.2.2.2.2.1 : Blk ?W _ _ _) F4.2.2.2.2.2.2 (by omega)
  have y0 := x.1.cell 0 _ rfl
  have y1 := x.1.cell 1 _ rfl
  refine bodyPost_ret (v := .tuple #[.agg #[.int .i64 (l), .int .i64 (i)], .int .i64 a, .int .i64 0]) (by simp [results, Try.results35, go_sem, y0, y1]) rfl ⟨rfl, x.2⟩
end Go.Proofs.Ytdiijjdhofaodaa.G
end
