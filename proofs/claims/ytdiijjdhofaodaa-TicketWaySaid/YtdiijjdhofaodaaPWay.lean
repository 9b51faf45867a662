/- Plain laws of layer 9: how many stations a ticket covers. -/
import Derived.Test.YtdiijjdhofaodaaPTick
import Derived.Test.YtdiijjdhofaodaaPLx2
namespace Go.Proofs.Ytdiijjdhofaodaa.Pure
open Go Go.RowKit Go.Proofs.Ytdiijjdhofaodaa.G Go.Proofs.Ytdiijjdhofaodaa.PL Go.Proofs.YtdiijjdhofaodaaW.PrintWords Go.Proofs.YtdiijjdhofaodaaW.PrintLast Go.Proofs.YtdiijjdhofaodaaW.PrintMore
/-- How many of the j numbers from s on are so. -/
def cnt (P : Nat → Bool) : Nat → Nat → Nat
  | _, 0 => 0
  | s, j + 1 => (if P s = true then 1 else 0) + cnt P (s + 1) j
theorem cnt_le (P : Nat → Bool) : ∀ s j, cnt P s j ≤ j
  | _, 0 => Nat.le_refl _
  | s, j + 1 => by
    have := cnt_le P (s + 1) j
    unfold cnt
    split <;> omega
theorem season_fin : ∀ a b : Fin 7, 1 ≤ a.val → a ≤ b → cnt (fun s => betw (zv s) a.val b.val) 0 40 = (stOf a.val b.val (List.range 40)).length := by decide +kernel
theorem way_fin : ∀ a b : Fin 40, (((cnt (fun s => decide (mn a.val b.val ≤ s ∧ (s : Int) ≤ mx a.val b.val)) 0 40 : Nat) : Int) = (b.val : Int) - a.val + 1 ∨ ((cnt (fun s => decide (mn a.val b.val ≤ s ∧ (s : Int) ≤ mx a.val b.val)) 0 40 : Nat) : Int) = (a.val : Int) - b.val + 1) := by decide +kernel
theorem stationsR_in {a b : Int} (h : 1 ≤ a ∧ a ≤ b ∧ b ≤ 6) : stationsR a b = (stOf a b (List.range 40), 0) := if_pos h
end Go.Proofs.Ytdiijjdhofaodaa.Pure
