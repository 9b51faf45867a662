/- A number is just the reference's bytes, or refused, and bytes are just its number, or refused: for any int and any row of at most 1000 bytes (others are let go). -/
import Derived.Test.YtekgienbhpknlaaQTlvN
import Derived.Test.YtekgienbhpknlaaPLx6
namespace Go.Proofs.Ytekgienbhpknlaa.Pure
open Go Go.RowKit Go.Proofs.Ytekgienbhpknlaa.Q Go.Proofs.Ytekgienbhpknlaa.PL Go.Proofs.YtekgienbhpknlaaW.PrintWords Go.Proofs.YtekgienbhpknlaaW.PrintLast Go.Proofs.YtekgienbhpknlaaW.PrintMore
theorem TlvNumbers : gatelinelaw17_TlvNumbers.Pure := by
  intro n l hn _ _ hl
  have hB := isBytes_of hl
  have hN := i64_of hn
  unfold gatelinelaw17_TlvNumbers.f
  by_cases c : (l.length : Int) > 1000
  · exact ⟨0, by rw [if_pos c]⟩
  · obtain ⟨K1, e1⟩ := listed_ev
    obtain ⟨K2, e2⟩ := number_ev n
    obtain ⟨K3, e3⟩ := refNumber_ev n hN.2
    obtain ⟨K4, e4⟩ := value_ev l hB
    obtain ⟨K5, e5⟩ := refValue_ev l hB
    obtain ⟨K6, e6⟩ := same_true (numR n).1 (by have := numR_length n; omega)
    refine ⟨K1 + K2 + K3 + K4 + K5 + K6, ?_⟩
    generalize hk : K1 + K2 + K3 + K4 + K5 + K6 = k
    have f2 : tlv_Number.f k n = _ := e2 k (by omega)
    have f3 : gatelineref17_Number.f k n = _ := e3 k (by omega)
    have f4 : tlv_Value.f k l = _ := e4 k (by omega)
    have f5 : gatelineref17_Value.f k l = _ := e5 k (by omega)
    have f6 : gatelineref01_Same.f k (numR n).1 (numR n).1 = _ := e6 k (by omega)
    rw [if_neg c, f2, Option.bind_some, f3, Option.bind_some, f4, Option.bind_some, f5, Option.bind_some, e1 k (by omega), Option.bind_some, if_pos rfl, f6, Option.bind_some, if_pos rfl, if_pos rfl, if_pos rfl]
    simp
end Go.Proofs.Ytekgienbhpknlaa.Pure
