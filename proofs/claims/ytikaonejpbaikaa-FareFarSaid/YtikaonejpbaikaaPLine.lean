/- Plain laws of layer 7: what the reference and the program compute, by finite cases. -/
import Derived.Test.YtikaonejpbaikaaPLx1
import Derived.Test.YtikaonejpbaikaaPLx2
namespace Go.Proofs.Ytikaonejpbaikaa.Pure
open Go Go.RowKit Go.Proofs.Ytikaonejpbaikaa.G Go.Proofs.Ytikaonejpbaikaa.PL Go.Proofs.YtikaonejpbaikaaW.PrintWords Go.Proofs.YtikaonejpbaikaaW.PrintLast Go.Proofs.YtikaonejpbaikaaW.PrintMore
theorem w64 {x : Int} (h0 : -9223372036854775808 ≤ x) (h1 : x ≤ 9223372036854775807) : wrap64 x = x := by
  unfold wrap64
  omega
theorem i64_of {n : Int} (h : (Lit.int .i64 n).wf = true) : -9223372036854775808 ≤ n ∧ n ≤ 9223372036854775807 := by
  have h1 : IntKind.i64.min = -9223372036854775808 := rfl
  have h2 : IntKind.i64.max = 9223372036854775807 := rfl
  simp only [Lit.wf, Bool.and_eq_true, decide_eq_true_eq] at h
  omega
theorem mn_def (a b : Int) : mn a b = if b < a then b else a := rfl
theorem mx_def (a b : Int) : mx a b = if a < b then b else a := rfl
/-- Is it a station? -/
def stB (s : Int) : Bool := decide (0 ≤ s ∧ s < 40)
theorem stB_in {s : Int} (h : 0 ≤ s ∧ s < 40) : stB s = true := decide_eq_true h
theorem stB_out {s : Int} (h : ¬ (0 ≤ s ∧ s < 40)) : stB s = false := decide_eq_false h
theorem is_f (s : Int) : line_Is.f s = some (stB s) := by
  unfold line_Is.f stB
  by_cases h : s ≥ 0
  · rw [if_pos h]
    congr 1
    exact decide_eq_decide.2 (by omega)
  · rw [if_neg h]
    congr 1
    exact (decide_eq_false (by omega)).symm
theorem refIs_f (s : Int) : gatelineref07_Is.f s = some (stB s) := by
  unfold gatelineref07_Is.f stB
  by_cases h : s ≥ 0
  · rw [if_pos h]
    congr 1
    exact decide_eq_decide.2 (by omega)
  · rw [if_neg h]
    congr 1
    exact (decide_eq_false (by omega)).symm
theorem zone_f (s : Int) (h : -9223372036854775808 ≤ s ∧ s ≤ 9223372036854775807) : line_Zone.f s = some (zoneR s) := if_pos h
theorem zoneR_in {s : Int} (h : 0 ≤ s ∧ s < 40) : zoneR s = (zv s, 0) := if_pos h
theorem zoneR_out {s : Int} (h : ¬ (0 ≤ s ∧ s < 40)) : zoneR s = (0, 1) := if_neg h
theorem zv_def (s : Int) : zv s = 1 + mx (s - 20) (20 - s) / 4 := rfl
theorem zv_fin : ∀ s : Fin 40, gatelineref07_Zone.f s.val = some (zoneR s.val) := by decide +kernel
theorem refZone_f (s : Int) : gatelineref07_Zone.f s = some (zoneR s) := by
  by_cases h : 0 ≤ s ∧ s < 40
  · have hs := zv_fin ⟨s.toNat, by omega⟩
    have e : ((s.toNat : Nat) : Int) = s := by omega
    simp only [e] at hs
    exact hs
  · unfold gatelineref07_Zone.f
    rw [refIs_f, Option.bind_some, stB_out h, zoneR_out h]
    rfl
/-- Is it on the way? -/
def betR (a b s : Int) : Bool × Int := if (stB a && stB b && stB s) = true then (decide (mn a b ≤ s ∧ s ≤ mx a b), 0) else (false, 1)
theorem bet_f (a b s : Int) : line_Between.f a b s = some (betR a b s) := by
  unfold line_Between.f betR
  rw [is_f, is_f, is_f]
  simp only [Option.bind_some]
  cases stB a <;> cases stB b <;> cases stB s <;> simp only [Bool.and_true, Bool.and_false, Bool.false_eq_true, if_true, if_false]
  by_cases h : mn a b ≤ s
  · rw [if_pos h]
    congr 2
    exact decide_eq_decide.2 (by omega)
  · rw [if_neg h]
    congr 2
    exact (decide_eq_false (by omega)).symm
theorem refBet_f (a b s : Int) : gatelineref07_Between.f a b s = some (betR a b s) := by
  unfold gatelineref07_Between.f betR
  rw [refIs_f, refIs_f, refIs_f]
  simp only [Option.bind_some]
  cases stB a <;> cases stB b <;> cases stB s <;> simp only [Bool.and_true, Bool.and_false, Bool.false_eq_true, if_true, if_false]
  rw [mn_def, mx_def]
  by_cases h1 : a ≤ s
  · rw [if_pos h1]
    by_cases h2 : s ≤ b
    · rw [if_pos h2]
      congr 2
      exact (decide_eq_true (by split <;> split <;> omega)).symm
    · rw [if_neg h2]
      by_cases h3 : b ≤ s
      · rw [if_pos h3]
        congr 2
        exact decide_eq_decide.2 (by split <;> split <;> omega)
      · rw [if_neg h3]
        congr 2
        exact (decide_eq_false (by split <;> split <;> omega)).symm
  · rw [if_neg h1]
    by_cases h3 : b ≤ s
    · rw [if_pos h3]
      congr 2
      exact decide_eq_decide.2 (by split <;> split <;> omega)
    · rw [if_neg h3]
      congr 2
      exact (decide_eq_false (by split <;> split <;> omega)).symm
theorem lined_ev : Ev gatelinelaw07_lined.f true := Ev.of gatelinelaw07_lined.mono (k := 20) (by decide +kernel)
theorem zonesR_in {a b : Int} (h : 0 ≤ a ∧ a < 40 ∧ 0 ≤ b ∧ b < 40) : zonesR a b = (lowZ a b, highZ a b, 0) := if_pos h
theorem zonesR_out {a b : Int} (h : ¬ (0 ≤ a ∧ a < 40 ∧ 0 ≤ b ∧ b < 40)) : zonesR a b = (0, 0, 1) := if_neg h
end Go.Proofs.Ytikaonejpbaikaa.Pure
