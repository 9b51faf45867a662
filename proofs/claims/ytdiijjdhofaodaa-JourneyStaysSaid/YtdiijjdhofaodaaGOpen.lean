/- A struct by value whose fields are all ints, opened: any number of fields. -/
import Derived.ChangeShapes
import Derived.ChangeSame
import Derived.WideShapes
import Derived.Test.YtdiijjdhofaodaaWMore
namespace Go.Proofs.Ytdiijjdhofaodaa.G
open Go Go.RowKit Go.ChangeShapes Go.WideShapes
def isInt : Option TypeDesc → Bool | some (.int .i64) => true | _ => false
theorem isInt_of {o : Option TypeDesc} (h : isInt o = true) : o = some (.int .i64) := by
  unfold isInt at h
  split at h
  · rfl
  · exact absurd h (by decide)
/-- The first m fields are ints of one cell each, one behind the other. -/
def intFields (P : Program) (fs : Array Field) (m : Nat) : Bool := (List.range m).all fun i => match fs[i]? with
  | some f => f.offset == i && P.cellsOf f.type == 1 && isInt (P.underlying f.type)
  | none => false
theorem intFields_of {P : Program} {fs : Array Field} {m : Nat} (h : intFields P fs m = true) (i : Nat) (hi : i < m) : ∃ f, fs[i]? = some f ∧ f.offset = i ∧ P.cellsOf f.type = 1 ∧ P.underlying f.type = some (.int .i64) := by
  have := List.all_eq_true.1 h i (List.mem_range.2 hi)
  cases hf : fs[i]? with
  | none => simp [hf] at this
  | some f =>
    simp only [hf, Bool.and_eq_true, beq_iff_eq] at this
    exact ⟨f, rfl, this.1.1, this.1.2, isInt_of this.2⟩
section
variable {H : Type} {enc : TypeId × Value → H} {P : Program} {w : World} {base : Nat} {spare : Nat → Bool} {held : Bool}
theorem open_ints_agg {r : Reach} {b0 : Nat} {t : TypeId} {fs : Array Field} {m : Nat} {v : Value} {d : DataW H} {ps : List MemPlace} (hs : P.underlying t = some (.struct fs)) (hone : intFields P fs m = true) (hC : P.cellsOf t = m)
    (hv : Value.okWide P w r b0 t v) (h : DataW.Trod enc P w base spare held t v d ps) :
    ∃ cs : Array Value, v = .agg cs ∧ cs.size = m ∧ ∀ i, i < m → ∃ n, cs[i]? = some (.int .i64 n) ∧ (Lit.int .i64 n).wf = true := by
  obtain ⟨cs, rfl, hsz⟩ := okWide_struct hs hv
  obtain ⟨fuel, hf⟩ := h
  obtain ⟨xs, n, _, hx, hl, hlen, hq⟩ := DataW.trod_struct hs hf
  refine ⟨cs, rfl, hsz.trans hC, fun i hi => ?_⟩
  obtain ⟨f, h1, h2, h3, h4⟩ := intFields_of hone i hi
  have hi' : i < cs.size := by omega
  have h5 := hq i f h1
  rw [h2, h3] at h5
  obtain ⟨y, hy⟩ : ∃ y, DataW.trod enc P w base spare held n f.type (((Value.agg cs).cells.toList.drop i).take 1) = some y := by
    have hi2 : i < fs.size := (Array.getElem?_eq_some_iff.1 h1).1
    exact ⟨xs[i]'(by omega), h5.trans (List.getElem?_eq_getElem (by omega))⟩
  obtain ⟨k, hk, _, hw⟩ := DataW.trod_int h4 hy
  refine ⟨k, ?_, hw⟩
  have h6 : (((Value.agg cs).cells.toList.drop i).take 1)[0]? = some (.int .i64 k) := by rw [hk]; rfl
  simpa [Value.cells, List.getElem?_take, List.getElem?_drop] using h6
end
theorem array_11 {cs : Array Value} (hs : cs.size = 11) {v0 v1 v2 v3 v4 v5 v6 v7 v8 v9 v10 : Value} (h0 : cs[0]? = some v0) (h1 : cs[1]? = some v1) (h2 : cs[2]? = some v2) (h3 : cs[3]? = some v3) (h4 : cs[4]? = some v4) (h5 : cs[5]? = some v5) (h6 : cs[6]? = some v6) (h7 : cs[7]? = some v7) (h8 : cs[8]? = some v8) (h9 : cs[9]? = some v9) (h10 : cs[10]? = some v10) :
    cs = #[v0, v1, v2, v3, v4, v5, v6, v7, v8, v9, v10] := by
  apply Array.ext_getElem?
  intro i
  match i with
  | 0 => exact h0
  | 1 => exact h1
  | 2 => exact h2
  | 3 => exact h3
  | 4 => exact h4
  | 5 => exact h5
  | 6 => exact h6
  | 7 => exact h7
  | 8 => exact h8
  | 9 => exact h9
  | 10 => exact h10
  | j + 11 =>
    rw [Array.getElem?_eq_none (by omega), Array.getElem?_eq_none (by simp)]
theorem open_ticket {H : Type} {enc : TypeId × Value → H} {P : Program} {w : World} {base : Nat} {spare : Nat → Bool} {held : Bool} {r : Reach} {b0 : Nat} {t : TypeId} {fs : Array Field} {v : Value} {d : DataW H} {ps : List MemPlace} (hs : P.underlying t = some (.struct fs)) (hone : intFields P fs 11 = true) (hC : P.cellsOf t = 11)
    (hv : Value.okWide P w r b0 t v) (h : DataW.Trod enc P w base spare held t v d ps) :
    ∃ x0 x1 x2 x3 x4 x5 x6 x7 x8 x9 x10 : Int, v = .agg #[.int .i64 x0, .int .i64 x1, .int .i64 x2, .int .i64 x3, .int .i64 x4, .int .i64 x5, .int .i64 x6, .int .i64 x7, .int .i64 x8, .int .i64 x9, .int .i64 x10] ∧
      (Lit.int .i64 x0).wf = true ∧ (Lit.int .i64 x1).wf = true ∧ (Lit.int .i64 x2).wf = true ∧ (Lit.int .i64 x3).wf = true ∧ (Lit.int .i64 x4).wf = true ∧ (Lit.int .i64 x5).wf = true ∧ (Lit.int .i64 x6).wf = true ∧ (Lit.int .i64 x7).wf = true ∧ (Lit.int .i64 x8).wf = true ∧ (Lit.int .i64 x9).wf = true ∧ (Lit.int .i64 x10).wf = true := by
  obtain ⟨cs, rfl, hsz, hall⟩ := open_ints_agg hs hone hC hv h
  obtain ⟨x0, e0, w0⟩ := hall 0 (by omega)
  obtain ⟨x1, e1, w1⟩ := hall 1 (by omega)
  obtain ⟨x2, e2, w2⟩ := hall 2 (by omega)
  obtain ⟨x3, e3, w3⟩ := hall 3 (by omega)
  obtain ⟨x4, e4, w4⟩ := hall 4 (by omega)
  obtain ⟨x5, e5, w5⟩ := hall 5 (by omega)
  obtain ⟨x6, e6, w6⟩ := hall 6 (by omega)
  obtain ⟨x7, e7, w7⟩ := hall 7 (by omega)
  obtain ⟨x8, e8, w8⟩ := hall 8 (by omega)
  obtain ⟨x9, e9, w9⟩ := hall 9 (by omega)
  obtain ⟨x10, e10, w10⟩ := hall 10 (by omega)
  exact ⟨x0, x1, x2, x3, x4, x5, x6, x7, x8, x9, x10, by rw [array_11 hsz e0 e1 e2 e3 e4 e5 e6 e7 e8 e9 e10], w0, w1, w2, w3, w4, w5, w6, w7, w8, w9, w10⟩
end Go.Proofs.Ytdiijjdhofaodaa.G
