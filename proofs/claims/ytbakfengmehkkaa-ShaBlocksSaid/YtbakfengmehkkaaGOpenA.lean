/- An array of whole numbers by value, opened. -/
import Derived.ChangeShapes
import Derived.ChangeSame
import Derived.WideShapes
import Derived.OpenShut
import Derived.Test.YtbakfengmehkkaaWMore
namespace Go.Proofs.Ytbakfengmehkkaa.G
open Go Go.RowKit Go.ChangeShapes Go.WideShapes
theorem okWide_array {P : Program} {w : World} {r : Reach} {b0 n : Nat} {t e : TypeId} {v : Value} (ht : P.underlying t = some (.array n e)) (h : Value.okWide P w r b0 t v) : ∃ cs, v = .agg cs ∧ cs.size = P.cellsOf t := by
  unfold Value.okWide at h
  rw [ht] at h
  obtain ⟨cs, h1, h2, _⟩ := h
  exact ⟨cs, h1, h2⟩
theorem ints_of (n : Nat) (k : IntKind) (cs : Array Value) (hs : cs.size = n) (h : ∀ i, i < n → ∃ x, cs[i]? = some (.int k x) ∧ (Lit.int k x).wf = true) : ∃ l : List Int, cs = (l.map (Value.int k)).toArray ∧ l.length = n ∧ ∀ x ∈ l, (Lit.int k x).wf = true := by
  have aux : ∀ m, m ≤ n → ∃ l : List Int, l.length = m ∧ (∀ i, i < m → cs[i]? = some (.int k (l.getD i 0))) ∧ ∀ x ∈ l, (Lit.int k x).wf = true := by
    intro m
    induction m with
    | zero => exact fun _ => ⟨[], rfl, fun i hi => absurd hi (by omega), fun x hx => by cases hx⟩
    | succ m ih =>
      intro hm
      obtain ⟨l, hl, hc, hw⟩ := ih (by omega)
      obtain ⟨x, hx, hxw⟩ := h m (by omega)
      refine ⟨l ++ [x], by simp [hl], fun i hi => ?_, fun y hy => ?_⟩
      · by_cases him : i < m
        · rw [hc i him]
          simp [List.getD_eq_getElem?_getD, List.getElem?_append_left (show i < l.length by omega)]
        · obtain rfl : i = m := by omega
          rw [hx]
          simp [List.getD_eq_getElem?_getD, hl]
      · rcases List.mem_append.1 hy with hy | hy
        · exact hw y hy
        · rw [List.mem_singleton.1 hy]; exact hxw
  obtain ⟨l, hl, hc, hw⟩ := aux n (Nat.le_refl _)
  refine ⟨l, ?_, hl, hw⟩
  apply Array.ext_getElem?
  intro i
  by_cases hi : i < n
  · rw [hc i hi]
    simp [List.getD_eq_getElem?_getD, List.getElem?_eq_getElem (show i < l.length by omega)]
  · rw [Array.getElem?_eq_none (by omega), Array.getElem?_eq_none (by simp; omega)]
theorem open_array {H : Type} {enc : TypeId × Value → H} {P : Program} {w : World} {base : Nat} {spare : Nat → Bool} {held : Bool} {r : Reach} {b0 n : Nat} {t e : TypeId} {k : IntKind} {v : Value} {d : DataW H} {ps : List MemPlace} (ht : P.underlying t = some (.array n e)) (he : P.underlying e = some (.int k)) (hce : P.cellsOf e = 1) (hct : P.cellsOf t = n)
    (hv : Value.okWide P w r b0 t v) (h : DataW.Trod enc P w base spare held t v d ps) :
    ∃ l : List Int, v = .agg (l.map (Value.int k)).toArray ∧ l.length = n ∧ ∀ x ∈ l, (Lit.int k x).wf = true := by
  obtain ⟨cs, rfl, hsz⟩ := okWide_array ht hv
  obtain ⟨fuel, hf⟩ := h
  obtain ⟨xs, m, _, _, _, hxl, hq⟩ := DataW.trod_array ht hf
  obtain ⟨l, h1, h2, h3⟩ := ints_of n k cs (hsz.trans hct) (fun i hi => by
    have h5 := hq i hi
    rw [hce, Nat.mul_one, List.getElem?_eq_getElem (show i < xs.length by omega)] at h5
    obtain ⟨x, hk, _, hw⟩ := DataW.trod_int he h5
    refine ⟨x, ?_, hw⟩
    have h6 : (((Value.agg cs).cells.toList.drop i).take 1)[0]? = some (.int k x) := by rw [hk]; rfl
    simpa [Value.cells, List.getElem?_take, List.getElem?_drop] using h6)
  exact ⟨l, by rw [h1], h2, h3⟩
end Go.Proofs.Ytbakfengmehkkaa.G
