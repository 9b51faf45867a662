/- What the functions that this claim reaches do and answer: printed words and walks, walks by hand and plain laws, packed together, each with its own remark; printed rows are by the kit's print program, turned by this session. Conditions: those that each theorem states. -/
import Derived.ChangeShapes
import Derived.ChangeSame
import Derived.WideShapes
import Derived.Deep.Strs
import Derived.Test.YtekgienbhpknlaaKA0
section
namespace Go.Proofs.Ytekgienbhpknlaa.G
open Go Go.RowKit Go.ChangeShapes Go.WideShapes
def isInt : Option TypeDesc → Bool | some (.int .i64) => true | _ => false
theorem isInt_of {o : Option TypeDesc} (h : isInt o = true) : o = some (.int .i64) := by
  unfold isInt at h
  split at h
  · rfl
  · exact absurd h (by decide)
/-- The first m fields are ints of one cell each, one behind the other. -/
def intFields (P : Program) (fs : Array Field) (m : Nat) : Bool := (List.range m).all fun i => match fs[i]? with
  | some f => f.offset == i && P.cellsOf f.type == 1 && isInt (P.underlying f.type)
  | none => false
theorem intFields_of {P : Program} {fs : Array Field} {m : Nat} (h : intFields P fs m = true) (i : Nat) (hi : i < m) : ∃ f, fs[i]? = some f ∧ f.offset = i ∧ P.cellsOf f.type = 1 ∧ P.underlying f.type = some (.int .i64) := by
  have := List.all_eq_true.1 h i (List.mem_range.2 hi)
  cases hf : fs[i]? with
  | none => simp [hf] at this
  | some f =>
    simp only [hf, Bool.and_eq_true, beq_iff_eq] at this
    exact ⟨f, rfl, this.1.1, this.1.2, isInt_of this.2⟩
section
variable {H : Type} {enc : TypeId × Value → H} {P : Program} {w : World} {base : Nat} {spare : Nat → Bool} {held : Bool}
theorem open_ints_agg {r : Reach} {b0 : Nat} {t : TypeId} {fs : Array Field} {m : Nat} {v : Value} {d : DataW H} {ps : List MemPlace} (hs : P.underlying t = some (.struct fs)) (hone : intFields P fs m = true) (hC : P.cellsOf t = m)
    (hv : Value.okWide P w r b0 t v) (h : DataW.Trod enc P w base spare held t v d ps) :
    ∃ cs : Array Value, v = .agg cs ∧ cs.size = m ∧ ∀ i, i < m → ∃ n, cs[i]? = some (.int .i64 n) ∧ (Lit.int .i64 n).wf = true := by
  obtain ⟨cs, rfl, hsz⟩ := okWide_struct hs hv
  obtain ⟨fuel, hf⟩ := h
  obtain ⟨xs, n, _, hx, hl, hlen, hq⟩ := DataW.trod_struct hs hf
  refine ⟨cs, rfl, hsz.trans hC, fun i hi => ?_⟩
  obtain ⟨f, h1, h2, h3, h4⟩ := intFields_of hone i hi
  have hi' : i < cs.size := by omega
  have h5 := hq i f h1
  rw [h2, h3] at h5
  obtain ⟨y, hy⟩ : ∃ y, DataW.trod enc P w base spare held n f.type (((Value.agg cs).cells.toList.drop i).take 1) = some y := by
    have hi2 : i < fs.size := (Array.getElem?_eq_some_iff.1 h1).1
    exact ⟨xs[i]'(by omega), h5.trans (List.getElem?_eq_getElem (by omega))⟩
  obtain ⟨k, hk, _, hw⟩ := DataW.trod_int h4 hy
  refine ⟨k, ?_, hw⟩
  have h6 : (((Value.agg cs).cells.toList.drop i).take 1)[0]? = some (.int .i64 k) := by rw [hk]; rfl
  simpa [Value.cells, List.getElem?_take, List.getElem?_drop] using h6
end
theorem array_11 {cs : Array Value} (hs : cs.size = 11) {v0 v1 v2 v3 v4 v5 v6 v7 v8 v9 v10 : Value} (h0 : cs[0]? = some v0) (h1 : cs[1]? = some v1) (h2 : cs[2]? = some v2) (h3 : cs[3]? = some v3) (h4 : cs[4]? = some v4) (h5 : cs[5]? = some v5) (h6 : cs[6]? = some v6) (h7 : cs[7]? = some v7) (h8 : cs[8]? = some v8) (h9 : cs[9]? = some v9) (h10 : cs[10]? = some v10) :
    cs = #[v0, v1, v2, v3, v4, v5, v6, v7, v8, v9, v10] := by
  apply Array.ext_getElem?
  intro i
  match i with
  | 0 => exact h0
  | 1 => exact h1
  | 2 => exact h2
  | 3 => exact h3
  | 4 => exact h4
  | 5 => exact h5
  | 6 => exact h6
  | 7 => exact h7
  | 8 => exact h8
  | 9 => exact h9
  | 10 => exact h10
  | j + 11 =>
    rw [Array.getElem?_eq_none (by omega), Array.getElem?_eq_none (by simp)]
theorem open_ticket {H : Type} {enc : TypeId × Value → H} {P : Program} {w : World} {base : Nat} {spare : Nat → Bool} {held : Bool} {r : Reach} {b0 : Nat} {t : TypeId} {fs : Array Field} {v : Value} {d : DataW H} {ps : List MemPlace} (hs : P.underlying t = some (.struct fs)) (hone : intFields P fs 11 = true) (hC : P.cellsOf t = 11)
    (hv : Value.okWide P w r b0 t v) (h : DataW.Trod enc P w base spare held t v d ps) :
    ∃ x0 x1 x2 x3 x4 x5 x6 x7 x8 x9 x10 : Int, v = .agg #[.int .i64 x0, .int .i64 x1, .int .i64 x2, .int .i64 x3, .int .i64 x4, .int .i64 x5, .int .i64 x6, .int .i64 x7, .int .i64 x8, .int .i64 x9, .int .i64 x10] ∧
      (Lit.int .i64 x0).wf = true ∧ (Lit.int .i64 x1).wf = true ∧ (Lit.int .i64 x2).wf = true ∧ (Lit.int .i64 x3).wf = true ∧ (Lit.int .i64 x4).wf = true ∧ (Lit.int .i64 x5).wf = true ∧ (Lit.int .i64 x6).wf = true ∧ (Lit.int .i64 x7).wf = true ∧ (Lit.int .i64 x8).wf = true ∧ (Lit.int .i64 x9).wf = true ∧ (Lit.int .i64 x10).wf = true := by
  obtain ⟨cs, rfl, hsz, hall⟩ := open_ints_agg hs hone hC hv h
  obtain ⟨x0, e0, w0⟩ := hall 0 (by omega)
  obtain ⟨x1, e1, w1⟩ := hall 1 (by omega)
  obtain ⟨x2, e2, w2⟩ := hall 2 (by omega)
  obtain ⟨x3, e3, w3⟩ := hall 3 (by omega)
  obtain ⟨x4, e4, w4⟩ := hall 4 (by omega)
  obtain ⟨x5, e5, w5⟩ := hall 5 (by omega)
  obtain ⟨x6, e6, w6⟩ := hall 6 (by omega)
  obtain ⟨x7, e7, w7⟩ := hall 7 (by omega)
  obtain ⟨x8, e8, w8⟩ := hall 8 (by omega)
  obtain ⟨x9, e9, w9⟩ := hall 9 (by omega)
  obtain ⟨x10, e10, w10⟩ := hall 10 (by omega)
  exact ⟨x0, x1, x2, x3, x4, x5, x6, x7, x8, x9, x10, by rw [array_11 hsz e0 e1 e2 e3 e4 e5 e6 e7 e8 e9 e10], w0, w1, w2, w3, w4, w5, w6, w7, w8, w9, w10⟩
end Go.Proofs.Ytekgienbhpknlaa.G
end
section
namespace Go.Proofs.Ytekgienbhpknlaa.G
open Go Go.RowKit Go.ChangeShapes Go.WideShapes
theorem array_2 {cs : Array Value} (hs : cs.size = 2) {v0 v1 : Value} (h0 : cs[0]? = some v0) (h1 : cs[1]? = some v1) : cs = #[v0, v1] := by
  apply Array.ext_getElem?
  intro i
  match i with
  | 0 => exact h0
  | 1 => exact h1
  | j + 2 =>
    rw [Array.getElem?_eq_none (by omega), Array.getElem?_eq_none (by simp)]
theorem open_journey {H : Type} {enc : TypeId × Value → H} {P : Program} {w : World} {base : Nat} {spare : Nat → Bool} {held : Bool} {r : Reach} {b0 : Nat} {t : TypeId} {fs : Array Field} {v : Value} {d : DataW H} {ps : List MemPlace} (hs : P.underlying t = some (.struct fs)) (hone : intFields P fs 2 = true) (hC : P.cellsOf t = 2)
    (hv : Value.okWide P w r b0 t v) (h : DataW.Trod enc P w base spare held t v d ps) :
    ∃ x0 x1 : Int, v = .agg #[.int .i64 x0, .int .i64 x1] ∧ (Lit.int .i64 x0).wf = true ∧ (Lit.int .i64 x1).wf = true := by
  obtain ⟨cs, rfl, hsz, hall⟩ := open_ints_agg hs hone hC hv h
  obtain ⟨x0, e0, w0⟩ := hall 0 (by omega)
  obtain ⟨x1, e1, w1⟩ := hall 1 (by omega)
  exact ⟨x0, x1, by rw [array_2 hsz e0 e1], w0, w1⟩
end Go.Proofs.Ytekgienbhpknlaa.G
end
section
namespace Go.Proofs.Ytekgienbhpknlaa.G
open Go Go.RowKit Go.ChangeShapes Go.WideShapes
theorem array_15 {cs : Array Value} (hs : cs.size = 15) {v0 v1 v2 v3 v4 v5 v6 v7 v8 v9 v10 v11 v12 v13 v14 : Value} (h0 : cs[0]? = some v0) (h1 : cs[1]? = some v1) (h2 : cs[2]? = some v2) (h3 : cs[3]? = some v3) (h4 : cs[4]? = some v4) (h5 : cs[5]? = some v5) (h6 : cs[6]? = some v6) (h7 : cs[7]? = some v7) (h8 : cs[8]? = some v8) (h9 : cs[9]? = some v9) (h10 : cs[10]? = some v10) (h11 : cs[11]? = some v11) (h12 : cs[12]? = some v12) (h13 : cs[13]? = some v13) (h14 : cs[14]? = some v14) :
    cs = #[v0, v1, v2, v3, v4, v5, v6, v7, v8, v9, v10, v11, v12, v13, v14] := by
  apply Array.ext_getElem?
  intro i
  match i with
  | 0 => exact h0
  | 1 => exact h1
  | 2 => exact h2
  | 3 => exact h3
  | 4 => exact h4
  | 5 => exact h5
  | 6 => exact h6
  | 7 => exact h7
  | 8 => exact h8
  | 9 => exact h9
  | 10 => exact h10
  | 11 => exact h11
  | 12 => exact h12
  | 13 => exact h13
  | 14 => exact h14
  | j + 15 =>
    rw [Array.getElem?_eq_none (by omega), Array.getElem?_eq_none (by simp)]
section
variable {H : Type} {enc : TypeId × Value → H} {P : Program} {w : World} {base : Nat} {spare : Nat → Bool} {held : Bool}
theorem trod_intsR {fuel : Nat} {t : TypeId} {fs : Array Field} {m : Nat} {l : List Value} {x : DataW H × List MemPlace} (hs : P.underlying t = some (.struct fs)) (hone : intFields P fs m = true) (_ : l.length = m)
    (h : DataW.trod enc P w base spare held fuel t l = some x) : ∀ i, i < m → ∃ n, l[i]? = some (.int .i64 n) ∧ (Lit.int .i64 n).wf = true := by
  obtain ⟨xs, n, _, hx, hl, hxl, hq⟩ := DataW.trod_struct hs h
  intro i hi
  obtain ⟨f, h1, h2, h3, h4⟩ := intFields_of hone i hi
  have h5 := hq i f h1
  rw [h2, h3] at h5
  obtain ⟨y, hy⟩ : ∃ y, DataW.trod enc P w base spare held n f.type ((l.drop i).take 1) = some y := by
    have hi2 : i < fs.size := (Array.getElem?_eq_some_iff.1 h1).1
    exact ⟨xs[i]'(by omega), h5.trans (List.getElem?_eq_getElem (by omega))⟩
  obtain ⟨k, hk, _, hw⟩ := DataW.trod_int h4 hy
  refine ⟨k, ?_, hw⟩
  have h6 : ((l.drop i).take 1)[0]? = some (.int .i64 k) := by rw [hk]; rfl
  simpa [List.getElem?_take, List.getElem?_drop] using h6
theorem open_read {r : Reach} {b0 : Nat} {t : TypeId} {f0 f1 f2 f3 : Field} {fsT fsJ : Array Field} {v : Value} {d : DataW H} {ps : List MemPlace} (hs : P.underlying t = some (.struct #[f0, f1, f2, f3]))
    (o0 : f0.offset = 0) (c0 : P.cellsOf f0.type = 11) (u0 : P.underlying f0.type = some (.struct fsT)) (i0 : intFields P fsT 11 = true) (o1 : f1.offset = 11) (c1 : P.cellsOf f1.type = 1) (u1 : P.underlying f1.type = some (.int .i64))
    (o2 : f2.offset = 12) (c2 : P.cellsOf f2.type = 2) (u2 : P.underlying f2.type = some (.struct fsJ)) (i2 : intFields P fsJ 2 = true) (o3 : f3.offset = 14) (c3 : P.cellsOf f3.type = 1) (u3 : P.underlying f3.type = some (.int .i64)) (hC : P.cellsOf t = 15) (hv : Value.okWide P w r b0 t v) (h : DataW.Trod enc P w base spare held t v d ps) :
    ∃ (x0 x1 x2 x3 x4 x5 x6 x7 x8 x9 x10 x11 x12 x13 x14 : Int), v = .agg #[.int .i64 x0, .int .i64 x1, .int .i64 x2, .int .i64 x3, .int .i64 x4, .int .i64 x5, .int .i64 x6, .int .i64 x7, .int .i64 x8, .int .i64 x9, .int .i64 x10, .int .i64 x11, .int .i64 x12, .int .i64 x13, .int .i64 x14] ∧ (Lit.int .i64 x0).wf = true ∧ (Lit.int .i64 x1).wf = true ∧ (Lit.int .i64 x2).wf = true ∧ (Lit.int .i64 x3).wf = true ∧ (Lit.int .i64 x4).wf = true ∧ (Lit.int .i64 x5).wf = true ∧ (Lit.int .i64 x6).wf = true ∧ (Lit.int .i64 x7).wf = true ∧ (Lit.int .i64 x8).wf = true ∧ (Lit.int .i64 x9).wf = true ∧ (Lit.int .i64 x10).wf = true ∧ (Lit.int .i64 x11).wf = true ∧ (Lit.int .i64 x12).wf = true ∧ (Lit.int .i64 x13).wf = true ∧ (Lit.int .i64 x14).wf = true := by
  obtain ⟨cs, rfl, hsz⟩ := okWide_struct hs hv
  rw [hC] at hsz
  obtain ⟨fuel, hf⟩ := h
  obtain ⟨xs, n, _, hx, hl, hlen, hq⟩ := DataW.trod_struct hs hf
  have hlen4 : xs.length = 4 := by simpa using hlen
  have get : ∀ (i : Nat) (f : Field), #[f0, f1, f2, f3][i]? = some f → ∃ y, DataW.trod enc P w base spare held n f.type (((Value.agg cs).cells.toList.drop f.offset).take (P.cellsOf f.type)) = some y := fun i f hfi => by
    have hi2 : i < 4 := (Array.getElem?_eq_some_iff.1 hfi).1
    exact ⟨xs[i]'(by omega), (hq i f hfi).trans (List.getElem?_eq_getElem (by omega))⟩
  obtain ⟨y0, h0⟩ := get 0 f0 rfl
  obtain ⟨y1, h1⟩ := get 1 f1 rfl
  obtain ⟨y2, h2⟩ := get 2 f2 rfl
  obtain ⟨y3, h3⟩ := get 3 f3 rfl
  rw [o0, c0] at h0
  rw [o1, c1] at h1
  rw [o2, c2] at h2
  rw [o3, c3] at h3
  have hT : ∀ i, i < 11 → ∃ n, cs[i]? = some (.int .i64 n) ∧ (Lit.int .i64 n).wf = true := fun i hi => by
    obtain ⟨n, hn, hw⟩ := trod_intsR u0 i0 (by simp [Value.cells]; omega) h0 i hi
    exact ⟨n, by simpa [Value.cells, List.getElem?_take, List.getElem?_drop, hi] using hn, hw⟩
  have hJ : ∀ i, i < 2 → ∃ n, cs[12 + i]? = some (.int .i64 n) ∧ (Lit.int .i64 n).wf = true := fun i hi => by
    obtain ⟨n, hn, hw⟩ := trod_intsR u2 i2 (by simp [Value.cells]; omega) h2 i hi
    exact ⟨n, by simpa [Value.cells, List.getElem?_take, List.getElem?_drop, hi] using hn, hw⟩
  obtain ⟨x11, k11, _, w11⟩ := DataW.trod_int u1 h1
  have e11 : cs[11]? = some (.int .i64 x11) := by
    have h6 : (((Value.agg cs).cells.toList.drop 11).take 1)[0]? = some (.int .i64 x11) := by rw [k11]; rfl
    simpa [Value.cells, List.getElem?_take, List.getElem?_drop] using h6
  obtain ⟨x14, k14, _, w14⟩ := DataW.trod_int u3 h3
  have e14 : cs[14]? = some (.int .i64 x14) := by
    have h6 : (((Value.agg cs).cells.toList.drop 14).take 1)[0]? = some (.int .i64 x14) := by rw [k14]; rfl
    simpa [Value.cells, List.getElem?_take, List.getElem?_drop] using h6
  obtain ⟨x0, e0, w0⟩ := hT 0 (by omega)
  obtain ⟨x1, e1, w1⟩ := hT 1 (by omega)
  obtain ⟨x2, e2, w2⟩ := hT 2 (by omega)
  obtain ⟨x3, e3, w3⟩ := hT 3 (by omega)
  obtain ⟨x4, e4, w4⟩ := hT 4 (by omega)
  obtain ⟨x5, e5, w5⟩ := hT 5 (by omega)
  obtain ⟨x6, e6, w6⟩ := hT 6 (by omega)
  obtain ⟨x7, e7, w7⟩ := hT 7 (by omega)
  obtain ⟨x8, e8, w8⟩ := hT 8 (by omega)
  obtain ⟨x9, e9, w9⟩ := hT 9 (by omega)
  obtain ⟨x10, e10, w10⟩ := hT 10 (by omega)
  obtain ⟨x12, e12, w12⟩ := hJ 0 (by omega)
  obtain ⟨x13, e13, w13⟩ := hJ 1 (by omega)
  exact ⟨x0, x1, x2, x3, x4, x5, x6, x7, x8, x9, x10, x11, x12, x13, x14, by rw [array_15 hsz e0 e1 e2 e3 e4 e5 e6 e7 e8 e9 e10 e11 e12 e13 e14], w0, w1, w2, w3, w4, w5, w6, w7, w8, w9, w10, w11, w12, w13, w14⟩
end
end Go.Proofs.Ytekgienbhpknlaa.G
end
