/- A journey by value (a struct of two ints), opened. -/
import Derived.Test.YtdiijjdhofaodaaGOpen
namespace Go.Proofs.Ytdiijjdhofaodaa.G
open Go Go.RowKit Go.ChangeShapes Go.WideShapes
theorem array_2 {cs : Array Value} (hs : cs.size = 2) {v0 v1 : Value} (h0 : cs[0]? = some v0) (h1 : cs[1]? = some v1) : cs = #[v0, v1] := by
  apply Array.ext_getElem?
  intro i
  match i with
  | 0 => exact h0
  | 1 => exact h1
  | j + 2 =>
    rw [Array.getElem?_eq_none (by omega), Array.getElem?_eq_none (by simp)]
theorem open_journey {H : Type} {enc : TypeId × Value → H} {P : Program} {w : World} {base : Nat} {spare : Nat → Bool} {held : Bool} {r : Reach} {b0 : Nat} {t : TypeId} {fs : Array Field} {v : Value} {d : DataW H} {ps : List MemPlace} (hs : P.underlying t = some (.struct fs)) (hone : intFields P fs 2 = true) (hC : P.cellsOf t = 2)
    (hv : Value.okWide P w r b0 t v) (h : DataW.Trod enc P w base spare held t v d ps) :
    ∃ x0 x1 : Int, v = .agg #[.int .i64 x0, .int .i64 x1] ∧ (Lit.int .i64 x0).wf = true ∧ (Lit.int .i64 x1).wf = true := by
  obtain ⟨cs, rfl, hsz, hall⟩ := open_ints_agg hs hone hC hv h
  obtain ⟨x0, e0, w0⟩ := hall 0 (by omega)
  obtain ⟨x1, e1, w1⟩ := hall 1 (by omega)
  exact ⟨x0, x1, by rw [array_2 hsz e0 e1], w0, w1⟩
end Go.Proofs.Ytdiijjdhofaodaa.G
