/- The law MacAlike, for the row. -/
import Derived.Test.YtbakfengmehkkaaGMacAlike
namespace Go.Proofs.Ytbakfengmehkkaa.Pure
open Go Go.RowKit Go.Proofs.Ytbakfengmehkkaa.Q Go.Proofs.Ytbakfengmehkkaa.G Go.Proofs.YtbakfengmehkkaaW.PrintWords
def TwoRowsN (l0 l1 : List Int) (_ : Int) (r : Bool) : Prop := IsBytes l0 ∧ IsBytes l1 ∧ r = true
theorem MacAlike (l0 : List Int) (_ : l0.length ≤ maxLen) (w0 : ∀ x ∈ l0, (Lit.int .u8 x).wf = true) (l1 : List Int) (_ : l1.length ≤ maxLen) (w1 : ∀ x ∈ l1, (Lit.int .u8 x).wf = true) (n : Int) (_ : (Lit.int .i64 n).wf = true) : ∃ _k : Nat, TwoRowsN l0 l1 n true := ⟨0, isBytes_of w0, isBytes_of w1, rfl⟩
theorem MacAlike_walk (_k : Nat) (A0 : Option Addr) (c0 : Nat) (l0 : List Int) (A1 : Option Addr) (c1 : Nat) (l1 : List Int) (n : Int) (r : Bool) (w : World) (hr0 : Kd.C (Kd.int .u8) w A0 l0.length l0) (hc0 : l0.length ≤ c0) (hr1 : Kd.C (Kd.int .u8) w A1 l1.length l1) (hc1 : l1.length ≤ c1) (h : TwoRowsN l0 l1 n r) :
    Calls Try.prog 9 #[.slice A0 l0.length c0, .slice A1 l1.length c1, .int .i64 n] w fun e w' => e = .returned (.bool r) ∧ Below w.heap.size w w' := by
  obtain ⟨h0, h1, rfl⟩ := h
  exact macAlike_any A0 c0 l0 A1 c1 l1 n w hr0 hc0 h0 hr1 hc1 h1
end Go.Proofs.Ytbakfengmehkkaa.Pure
