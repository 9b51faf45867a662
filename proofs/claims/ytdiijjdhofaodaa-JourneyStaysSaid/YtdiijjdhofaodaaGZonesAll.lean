/- The contract of line.Zones, for any two numbers. -/
import Derived.Test.YtdiijjdhofaodaaGZones
import Derived.OwnWalk
namespace Go.Proofs.Ytdiijjdhofaodaa.G
open Go Go.RowKit Go.Proofs.YtdiijjdhofaodaaW.PrintWords Go.Proofs.YtdiijjdhofaodaaW.PrintLast Go.Proofs.YtdiijjdhofaodaaW.PrintMore
def lowZ (a b : Int) : Int := if mn a b ≤ 20 ∧ 20 ≤ mx a b then 1 else mn (zv a) (zv b)
def highZ (a b : Int) : Int := mx (zv a) (zv b)
def zonesR (a b : Int) : Int × Int × Int := if 0 ≤ a ∧ a < 40 ∧ 0 ≤ b ∧ b < 40 then (lowZ a b, highZ a b, 0) else (0, 0, 1)
theorem fold_fin : ∀ a b : Fin 40, lowOf a.val b.val (zv a.val) (List.range (many a.val b.val)) = lowZ a.val b.val ∧ highOf a.val b.val (zv a.val) (List.range (many a.val b.val)) = highZ a.val b.val := by decide +kernel
theorem fold_int (a b : Int) (ha0 : 0 ≤ a) (ha1 : a < 40) (hb0 : 0 ≤ b) (hb1 : b < 40) : lowOf a b (zv a) (List.range (many a b)) = lowZ a b ∧ highOf a b (zv a) (List.range (many a b)) = highZ a b := by
  have h := fold_fin ⟨a.toNat, by omega⟩ ⟨b.toNat, by omega⟩
  have ea : ((a.toNat : Nat) : Int) = a := by omega
  have eb : ((b.toNat : Nat) : Int) = b := by omega
  simp only [ea, eb] at h
  exact h
theorem zones_out (a b : Int) (w : World) (h : ¬ (0 ≤ a ∧ a < 40 ∧ 0 ≤ b ∧ b < 40)) :
    Calls Try.prog 63 #[.int .i64 a, .int .i64 b] w fun e w' => e = .returned (.tuple #[.int .i64 0, .int .i64 0, .int .i64 1]) ∧ Below w.heap.size w w' := by
  rcases (by omega : a < 0 ∨ (0 ≤ a ∧ 40 ≤ a) ∨ (0 ≤ a ∧ a < 40 ∧ b < 0) ∨ (0 ≤ a ∧ a < 40 ∧ 0 ≤ b ∧ 40 ≤ b)) with h1 | ⟨h1, h2⟩ | ⟨h1, h2, h3⟩ | ⟨h1, h2, h3, h4⟩
  all_goals
    clear h
    go_enter Try.func63, Try.ntmps63
    go_wp2_with go_in
    all_goals first
      | (go_ret3; exact ⟨rfl, Below.refl _ _⟩)
      | (exfalso; simp only [Bool.not_eq_false', decide_eq_true_eq] at *; omega)
theorem zones_all (a b : Int) (w : World) :
    Calls Try.prog 63 #[.int .i64 a, .int .i64 b] w fun e w' => e = .returned (.tuple #[.int .i64 (zonesR a b).1, .int .i64 (zonesR a b).2.1, .int .i64 (zonesR a b).2.2]) ∧ Below w.heap.size w w' := by
  unfold zonesR
  by_cases h : 0 ≤ a ∧ a < 40 ∧ 0 ≤ b ∧ b < 40
  · rw [if_pos h]
    obtain ⟨h1, h2⟩ := fold_int a b h.1 h.2.1 h.2.2.1 h.2.2.2
    have hz := zones_any a b h.1 h.2.1 h.2.2.1 h.2.2.2 w
    refine hz.mono ?_
    rintro e w' ⟨rfl, hb⟩
    exact ⟨by rw [h1, h2], hb⟩
  · rw [if_neg h]
    exact zones_out a b w h
end Go.Proofs.Ytdiijjdhofaodaa.G
