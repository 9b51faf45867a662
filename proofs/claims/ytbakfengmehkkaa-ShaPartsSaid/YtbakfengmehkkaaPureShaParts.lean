/- The law ShaParts, for the row. -/
import Derived.Test.YtbakfengmehkkaaGShaParts
namespace Go.Proofs.Ytbakfengmehkkaa.Pure
open Go Go.RowKit Go.Proofs.Ytbakfengmehkkaa.Q Go.Proofs.Ytbakfengmehkkaa.G Go.Proofs.YtbakfengmehkkaaW.PrintWords
def PartsFact (l : List Int) (r : Bool) : Prop := IsBytes l ∧ l.length ≤ 140737488351232 ∧ r = true
theorem ShaParts (l : List Int) (hl : l.length ≤ 140737488351232) (wl : ∀ x ∈ l, (Lit.int .u8 x).wf = true) : ∃ _k : Nat, PartsFact l true := ⟨0, isBytes_of wl, hl, rfl⟩
theorem ShaParts_walk (_k : Nat) (A : Option Addr) (c : Nat) (l : List Int) (r : Bool) (w : World) (hr : Kd.C (Kd.int .u8) w A l.length l) (hc : l.length ≤ c) (h : PartsFact l r) :
    Calls Try.prog 6 #[.slice A l.length c] w fun e w' => e = .returned (.bool r) ∧ Below w.heap.size w w' := by
  obtain ⟨h1, h2, rfl⟩ := h
  exact shaParts_any A c l w hr hc h2 h1
end Go.Proofs.Ytbakfengmehkkaa.Pure
