/- A row of fields (an int and bytes each) that came in, opened: for any row. -/
import Derived.ChangeSlices
import Derived.ChangeShapes
import Derived.ChangeSame
import Derived.WideShapes
import Derived.Test.YtekgienbhpknlaaWMore
import Derived.Test.YtekgienbhpknlaaPLx0
namespace Go.Proofs.Ytekgienbhpknlaa.G
open Go Go.RowKit Go.ChangeShapes Go.WideShapes Go.Proofs.Ytekgienbhpknlaa.PL Go.Proofs.YtekgienbhpknlaaW.PrintWords
def FieldOk (f : S40) : Prop := (Lit.int .i64 f.f0).wf = true ∧ f.f1.length ≤ maxLen ∧ ∀ x ∈ f.f1, (Lit.int .u8 x).wf = true
theorem row_of {α : Type} [Inhabited α] {P : Nat → α → Prop} (n : Nat) (h : ∀ i, i < n → ∃ x, P i x) : ∃ l : List α, l.length = n ∧ ∀ i x, l[i]? = some x → P i x := by
  induction n with
  | zero => exact ⟨[], rfl, fun i x hx => by simp at hx⟩
  | succ n ih =>
    obtain ⟨l, hl, hp⟩ := ih (fun i hi => h i (by omega))
    obtain ⟨x, hx⟩ := h n (by omega)
    refine ⟨l ++ [x], by simp [hl], fun i y hy => ?_⟩
    by_cases hi : i < n
    · exact hp i y (by rw [← hy, List.getElem?_append_left (by omega)])
    · have hlt := (List.getElem?_eq_some_iff.1 hy).1
      simp at hlt
      have : i = n := by omega
      subst this
      rw [List.getElem?_append_right (by omega), hl] at hy
      simp at hy
      exact hy ▸ hx
instance : Inhabited S40 := ⟨z40⟩
section
variable {H : Type} {enc : TypeId × Value → H} {w : World} {base : Nat} {spare : Nat → Bool} {held : Bool}
theorem open_field {fuel : Nat} {cs : List Value} {x : DataW H × List MemPlace} (h : DataW.trod enc Try.prog w base spare held fuel 40 cs = some x) :
    ∃ f : S40, k40.K w f cs ∧ FieldOk f := by
  obtain ⟨xs, n, _, _, hlen, hx, hf⟩ := DataW.trod_struct Try.underlying40 h
  have hc2 : Try.prog.cellsOf 40 = 2 := by kernel_rfl
  rw [hc2] at hlen
  have f0 : DataW.trod enc Try.prog w base spare held n 3 ((cs.drop 0).take (Try.prog.cellsOf 3)) = xs[0]? := hf 0 _ rfl
  have f1 : DataW.trod enc Try.prog w base spare held n 24 ((cs.drop 1).take (Try.prog.cellsOf 24)) = xs[1]? := hf 1 _ rfl
  have c0 : Try.prog.cellsOf 3 = 1 := by kernel_rfl
  have c1 : Try.prog.cellsOf 24 = 1 := by kernel_rfl
  rw [c0, List.drop_zero] at f0
  rw [c1] at f1
  have hx2 : xs.length = 2 := hx
  rw [List.getElem?_eq_getElem (show 0 < xs.length by omega)] at f0
  rw [List.getElem?_eq_getElem (show 1 < xs.length by omega)] at f1
  obtain ⟨m, hm, _, hw⟩ := DataW.trod_int Try.underlying3 f0
  match cs, hlen with
  | [u, v], _ =>
    simp only [List.take_succ_cons, List.take_zero, List.drop_succ_cons, List.drop_zero, List.cons.injEq, and_true] at hm f1
    subst hm
    rcases open_ints Try.underlying24 Try.underlying5 (by kernel_rfl) f1 with ⟨hcs, _⟩ | ⟨a, l, c, zs, hcs, _, hl, hmx, hz, _, hcell, hwz⟩
    · simp only [List.cons.injEq, and_true] at hcs
      subst hcs
      exact ⟨⟨m, []⟩, k40_mk w ⟨m, []⟩ (Nat.le_refl _) (Kd.C_nil _ _), hw, by simp, fun x hx => by cases hx⟩
    · simp only [List.cons.injEq, and_true] at hcs
      subst hcs
      have hzl : l ≤ zs.length := by rw [hz]; split <;> omega
      have hll : (zs.take l).length = l := by rw [List.length_take]; omega
      refine ⟨⟨m, zs.take l⟩, ?_, hw, by show (zs.take l).length ≤ _; omega, fun x hx => hwz x (List.mem_of_mem_take hx)⟩
      have hC : Kd.C (Kd.int .u8) w (some a) (zs.take l).length (zs.take l) := Kd.C_of_reads (d := (0 : Int)) (h1 := fun _ => rfl) (by
        refine ⟨rfl, by rw [hll]; unfold maxLen at hmx; omega, ?_⟩
        intro _
        exact ⟨a, rfl, fun i hi => by
          have hi2 : i < l := by rw [hll] at hi; exact hi
          rw [hcell i (by omega)]
          simp [List.getD_eq_getElem?_getD, hi2]⟩)
      have := k40_mk w ⟨m, zs.take l⟩ (A1 := some a) (c1 := c) (by show (zs.take l).length ≤ c; omega) hC
      rw [show (⟨m, zs.take l⟩ : S40).f1.length = l from hll] at this
      exact this
theorem open_fields {fuel : Nat} {A : Option Addr} {len cap : Nat} {x : DataW H × List MemPlace} (h : DataW.trod enc Try.prog w base spare held fuel 22 (Value.slice A len cap).cells.toList = some x) :
    ∃ l : List S40, len = l.length ∧ len ≤ cap ∧ len ≤ maxLen ∧ Kd.C k40 w A len l ∧ ∀ f ∈ l, FieldOk f := by
  rcases DataW.trod_slice Try.underlying22 h with ⟨hcs, _⟩ | ⟨a, len', cap', elems, rest, n, _, hcs, _, _, hl, hm, hlen, hel, _, _⟩
  · simp [Value.cells] at hcs
    obtain ⟨rfl, rfl, rfl⟩ := hcs
    exact ⟨[], rfl, Nat.le_refl _, by simp, Kd.C_nil _ _, fun f hf => by cases hf⟩
  · simp [Value.cells] at hcs
    obtain ⟨rfl, rfl, rfl⟩ := hcs
    have hc2 : Try.prog.cellsOf 40 = 2 := by kernel_rfl
    rw [hc2] at hel
    have each : ∀ i, i < len → ∃ f : S40, FieldOk f ∧ ∃ cs : List Value, k40.K w f cs ∧ cs.length = 2 ∧ ∀ j u, cs[j]? = some u → w.cell? (a.add (i * 2 + j)) = some u := by
      intro i hi
      have e := hel i hi
      rw [List.getElem?_eq_getElem (show i < elems.length by omega), Option.bind_eq_some_iff] at e
      obtain ⟨cs, h1, h2⟩ := e
      obtain ⟨f, hk, ho⟩ := open_field h2
      have hs := World.cells?_some h1
      have h2l : cs.length = 2 := hs.2.1
      refine ⟨f, ho, cs, hk, h2l, fun j u hu => ?_⟩
      have hj : j < cs.length := (List.getElem?_eq_some_iff.1 hu).1
      have hcell := hs.2.2 j (by omega)
      rw [show (a.add (i * 2)).add j = a.add (i * 2 + j) from Addr.add_add _ _ _] at hcell
      rw [hcell, hu]
    obtain ⟨l, h1, h2⟩ := row_of len each
    refine ⟨l, h1.symm, hl, by omega, ⟨h1, by unfold maxLen at hm; omega, fun _ => ⟨a, rfl, fun j p hp => ?_⟩⟩, fun f hf => ?_⟩
    · obtain ⟨_, cs, hk, hl2, hc⟩ := h2 j p hp
      exact ⟨cs, hl2, hk, hc⟩
    · obtain ⟨i, hi⟩ := List.getElem?_of_mem hf
      exact (h2 i f hi).1
end
end Go.Proofs.Ytekgienbhpknlaa.G
