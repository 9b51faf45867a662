/- The law ShaBlocks, for the row. -/
import Derived.Test.YtbakfengmehkkaaGShaBlocks
namespace Go.Proofs.Ytbakfengmehkkaa.Pure
open Go Go.RowKit Go.Proofs.Ytbakfengmehkkaa.Q Go.Proofs.Ytbakfengmehkkaa.G
def BlocksFact (l m : List Int) (r : Bool) : Prop := l.length = 8 ∧ m.length = 16 ∧ IsWords l ∧ IsWords m ∧ r = true
theorem ShaBlocks (l : List Int) (hl : l.length = 8) (wl : ∀ x ∈ l, (Lit.int .u32 x).wf = true) (m : List Int) (hm : m.length = 16) (wm : ∀ x ∈ m, (Lit.int .u32 x).wf = true) : ∃ _k : Nat, BlocksFact l m true :=
  ⟨0, hl, hm, isWords_of wl, isWords_of wm, rfl⟩
theorem ShaBlocks_walk (_k : Nat) (l m : List Int) (r : Bool) (w : World) (h : BlocksFact l m r) :
    Calls Try.prog 4 #[.agg (l.map (Value.int .u32)).toArray, .agg (m.map (Value.int .u32)).toArray] w fun e w' => e = .returned (.bool r) ∧ Below w.heap.size w w' := by
  obtain ⟨h1, h2, h3, h4, rfl⟩ := h
  exact shaBlocks_any l m w h1 h2 h3 h4
end Go.Proofs.Ytbakfengmehkkaa.Pure
