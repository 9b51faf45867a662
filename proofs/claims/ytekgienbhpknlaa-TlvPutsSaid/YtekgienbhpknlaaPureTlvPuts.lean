/- Fields are just the reference's bytes, or refused: for any row of at most 300 fields of at most 400 bytes (others are let go). -/
import Derived.Test.YtekgienbhpknlaaQBig
import Derived.Test.YtekgienbhpknlaaPLx4
namespace Go.Proofs.Ytekgienbhpknlaa.Pure
open Go Go.RowKit Go.Proofs.Ytekgienbhpknlaa.Q Go.Proofs.Ytekgienbhpknlaa.PL Go.Proofs.Ytekgienbhpknlaa.G Go.Proofs.YtekgienbhpknlaaW.PrintWords Go.Proofs.YtekgienbhpknlaaW.PrintLast Go.Proofs.YtekgienbhpknlaaW.PrintMore
theorem TlvPuts (l : List S) (_ : l.length ≤ maxLen) (_ : ∀ f ∈ l, FieldOk f) : ∃ k, gatelinelaw17_TlvPuts.f k l = some true := by
  obtain ⟨K0, e0⟩ := big_ev l
  unfold gatelinelaw17_TlvPuts.f
  by_cases c : bigR l = true
  · exact ⟨K0, by have f0 : gatelineref17_Big.f K0 l = _ := e0 K0 (by omega); rw [f0, Option.bind_some, if_pos c]⟩
  · have hb := big_not l c
    obtain ⟨K1, e1⟩ := listed_ev
    obtain ⟨K2, e2⟩ := tput_ev l (by omega)
    obtain ⟨K3, e3⟩ := rput_ev l (by omega)
    obtain ⟨K4, e4⟩ := same_true (putRG l).1 (by have := putRG_length l; omega)
    obtain ⟨K5, e5⟩ := is_ev l (by omega)
    obtain ⟨K6, e6⟩ := refIs_ev l (by omega)
    refine ⟨K0 + K1 + K2 + K3 + K4 + K5 + K6, ?_⟩
    generalize hk : K0 + K1 + K2 + K3 + K4 + K5 + K6 = k
    have f0 : gatelineref17_Big.f k l = _ := e0 k (by omega)
    have f2 : tlv_Put.f k l = _ := e2 k (by omega)
    have f3 : gatelineref17_Put.f k l = _ := e3 k (by omega)
    have f4 : gatelineref01_Same.f k (putRG l).1 (putRG l).1 = _ := e4 k (by omega)
    have f5 : tlv_Is.f k l = _ := e5 k (by omega)
    have f6 : gatelineref17_Is.f k l = _ := e6 k (by omega)
    rw [f0, Option.bind_some, if_neg c, f2, Option.bind_some, f3, Option.bind_some, e1 k (by omega), Option.bind_some, if_pos rfl, f4, Option.bind_some, if_pos rfl, if_pos rfl, f5, Option.bind_some, f6, Option.bind_some]
    simp
end Go.Proofs.Ytekgienbhpknlaa.Pure
