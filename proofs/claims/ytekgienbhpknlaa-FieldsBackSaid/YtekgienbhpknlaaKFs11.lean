/- What the functions that this claim reaches do and answer: printed words and walks, walks by hand and plain laws, packed together, each with its own remark; printed rows are by the kit's print program, turned by this session. Conditions: those that each theorem states. -/
import Derived.Test.YtekgienbhpknlaaKA3
import Derived.Test.YtekgienbhpknlaaKA2
section
namespace Go.Proofs.Ytekgienbhpknlaa.Q
open Go Go.RowKit Go.Proofs.Ytekgienbhpknlaa.PL Go.Proofs.Ytekgienbhpknlaa.G Go.Proofs.YtekgienbhpknlaaW.PrintWords Go.Proofs.YtekgienbhpknlaaW.PrintLast Go.Proofs.YtekgienbhpknlaaW.PrintMore
def bigR (l : List S) : Bool := if l.length ≤ 300 then l.any (fun f => decide (f.f1.length > 400)) else true
theorem big_l0 (l : List S) (hlen : l.length ≤ 300) (d : Nat) : ∀ (k i : Nat), l.length - i = d → i ≤ l.length → 2 * d + 2 < k → gatelineref17_Big.l0 k l (i : Int) = some ((l.drop i).any (fun f => decide (f.f1.length > 400))) := by
  induction d with
  | zero =>
    intro k i hd hi hk
    obtain ⟨k, rfl⟩ : ∃ m, k = m + 2 := ⟨k - 2, by omega⟩
    have : i = l.length := by omega
    subst this
    have c : ¬ ((l.length : Int) > 300) := by omega
    rw [gatelineref17_Big.l0, if_neg (by omega), gatelineref17_Big.j1, if_neg (by decide), List.drop_length, decide_eq_false c]
    rfl
  | succ d ih =>
    intro k i hd hi hk
    obtain ⟨k, rfl⟩ : ∃ m, k = m + 2 := ⟨k - 2, by omega⟩
    have hlt : i < l.length := by omega
    have c1 : (i : Int) < (l.length : Int) := by omega
    have c2 : (0 : Int) ≤ (i : Int) := by omega
    have c3 : (l.length : Int) ≤ 300 := by omega
    rw [gatelineref17_Big.l0, if_pos c1, gatelineref17_Big.j1, decide_eq_true c3, if_pos rfl, if_pos c2, if_pos c1, rd_T l i hlt, w64_succ i (by omega), List.drop_eq_getElem_cons hlt, List.any_cons]
    by_cases h : (l[i]).f1.length > 400
    · rw [if_pos (by omega), decide_eq_true h]
      rfl
    · rw [if_neg (by omega), decide_eq_false h, ih k (i + 1) (by omega) (by omega) (by omega)]
      rfl
theorem big_ev (l : List S) : Ev (fun k => gatelineref17_Big.f k l) (bigR l) := by
  by_cases h : l.length ≤ 300
  · refine ⟨2 * l.length + 3, fun k hk => ?_⟩
    have := big_l0 l h l.length k 0 (by omega) (by omega) (by omega)
    show gatelineref17_Big.l0 k l 0 = _
    unfold bigR
    rw [if_pos h]
    simpa using this
  · refine ⟨2, fun k hk => ?_⟩
    obtain ⟨k, rfl⟩ : ∃ m, k = m + 2 := ⟨k - 2, by omega⟩
    show gatelineref17_Big.l0 (k + 2) l 0 = _
    have c1 : (0 : Int) < (l.length : Int) := by omega
    have c2 : ¬ ((l.length : Int) ≤ 300) := by omega
    unfold bigR
    rw [if_neg h, gatelineref17_Big.l0, if_pos c1, gatelineref17_Big.j1, decide_eq_false c2, if_neg (by decide), decide_eq_true (by omega)]
theorem big_not (l : List S) (h : ¬ bigR l = true) : l.length ≤ 300 ∧ ∀ f ∈ l, f.f1.length ≤ 400 := by
  unfold bigR at h
  by_cases c : l.length ≤ 300
  · rw [if_pos c] at h
    refine ⟨c, fun f hf => ?_⟩
    rcases Nat.lt_or_ge 400 f.f1.length with h2 | h2
    · exact absurd (List.any_eq_true.2 ⟨f, hf, decide_eq_true h2⟩) h
    · exact h2
  · rw [if_neg c] at h
    exact absurd rfl h
end Go.Proofs.Ytekgienbhpknlaa.Q
end
