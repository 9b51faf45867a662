/- A number but 0 is told again, and bytes that are a number are its bytes: for any int and any row of at most 1000 bytes (others are let go). -/
import Derived.Test.YtekgienbhpknlaaQTlvN
import Derived.Test.YtekgienbhpknlaaPLx6
namespace Go.Proofs.Ytekgienbhpknlaa.Pure
open Go Go.RowKit Go.Proofs.Ytekgienbhpknlaa.Q Go.Proofs.Ytekgienbhpknlaa.PL Go.Proofs.YtekgienbhpknlaaW.PrintWords Go.Proofs.YtekgienbhpknlaaW.PrintLast Go.Proofs.YtekgienbhpknlaaW.PrintMore
theorem tells_j1 (l : List Int) (hB : IsBytes l) (hlen : l.length ≤ 1000) : Ev (fun k => gatelinelaw17_TlvTells.j1 k l) true := by
  obtain ⟨K1, e1⟩ := listed_ev
  obtain ⟨K2, e2⟩ := value_ev l hB
  obtain ⟨K3, e3⟩ := number_ev (valR l).1
  obtain ⟨K4, e4⟩ := same_true l (by omega)
  refine ⟨K1 + K2 + K3 + K4 + 1, fun k hk => ?_⟩
  obtain ⟨k, rfl⟩ : ∃ m, k = m + 1 := ⟨k - 1, by omega⟩
  have f2 : tlv_Value.f k l = _ := e2 k (by omega)
  have f3 : tlv_Number.f k (valR l).1 = _ := e3 k (by omega)
  have f4 : gatelineref01_Same.f k l l = _ := e4 k (by omega)
  show gatelinelaw17_TlvTells.j1 (k + 1) l = _
  rw [gatelinelaw17_TlvTells.j1, f2, Option.bind_some]
  by_cases h : (valR l).2 = 0
  · obtain ⟨h1, _, h3⟩ := num_val l hB h
    rw [if_pos h, f3, Option.bind_some, e1 k (by omega), Option.bind_some, if_pos rfl, if_pos h1, h3, if_pos rfl, f4, Option.bind_some]
  · rw [if_neg h, e1 k (by omega), Option.bind_some]
theorem TlvTells : gatelinelaw17_TlvTells.Pure := by
  intro n l hn _ _ hl
  have hB := isBytes_of hl
  have hN := i64_of hn
  unfold gatelinelaw17_TlvTells.f
  by_cases c : (l.length : Int) > 1000
  · exact ⟨0, by rw [if_pos c]⟩
  · obtain ⟨K1, e1⟩ := tells_j1 l hB (by omega)
    obtain ⟨K2, e2⟩ := number_ev n
    obtain ⟨K3, e3⟩ := value_ev (numR n).1 (numR_bytes n)
    refine ⟨K1 + K2 + K3 + 1, ?_⟩
    generalize hk : K1 + K2 + K3 = k
    have f1 : gatelinelaw17_TlvTells.j1 k l = _ := e1 k (by omega)
    have f2 : tlv_Number.f (k + 1) n = _ := e2 (k + 1) (by omega)
    have f3 : tlv_Value.f k (numR n).1 = _ := e3 k (by omega)
    have jf : gatelinelaw17_TlvTells.j0 (k + 1) n l (numR n).1 false = some true := by rw [gatelinelaw17_TlvTells.j0, if_neg (by decide), f1]
    rw [if_neg c, f2, Option.bind_some]
    by_cases h1 : (numR n).2 = 0
    · rw [if_pos h1]
      by_cases h2 : n > 0
      · rw [if_pos h2]
        by_cases h3 : (numR n).1.length ≤ 7
        · have hv := val_num n h2 hN.2 h3
          rw [decide_eq_true (show ((numR n).1.length : Int) ≤ 7 by omega), gatelinelaw17_TlvTells.j0, if_pos rfl, f3, hv, Option.bind_some, if_pos rfl, if_pos rfl, f1]
        · rw [decide_eq_false (show ¬ ((numR n).1.length : Int) ≤ 7 by omega), jf]
      · rw [if_neg h2, jf]
    · rw [if_neg h1, jf]
end Go.Proofs.Ytekgienbhpknlaa.Pure
