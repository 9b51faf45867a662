/- Bytes are just the reference's fields, or refused: for any row of at most 3000 bytes (others are let go). -/
import Derived.Test.YtekgienbhpknlaaQTlvB
import Derived.Test.YtekgienbhpknlaaPLx5
namespace Go.Proofs.Ytekgienbhpknlaa.Pure
open Go Go.RowKit Go.Proofs.Ytekgienbhpknlaa.Q Go.Proofs.Ytekgienbhpknlaa.PL Go.Proofs.YtekgienbhpknlaaW.PrintWords Go.Proofs.YtekgienbhpknlaaW.PrintLast Go.Proofs.YtekgienbhpknlaaW.PrintMore
theorem TlvGets : gatelinelaw17_TlvGets.Pure := by
  intro l _ _ hl
  have hB := isBytes_of hl
  unfold gatelinelaw17_TlvGets.f
  by_cases c : (l.length : Int) > 3000
  · exact ⟨0, by rw [if_pos c]⟩
  · have hlen := getG_length (l.length + 1) l 0
    obtain ⟨K1, e1⟩ := listed_ev
    obtain ⟨K2, e2⟩ := rget_ev l hB (by omega)
    obtain ⟨K3, e3⟩ := same17_ev (getRG l).1 (getRG l).1 255 (by omega) (by unfold getRG; omega) (fun x hx => (getG_values (l.length + 1) l 0 hB x hx).1)
    refine ⟨K1 + K2 + K3, ?_⟩
    have f2 : gatelineref17_Get.f (K1 + K2 + K3) l = _ := e2 _ (by omega)
    have f3 : gatelineref17_Same.f (K1 + K2 + K3) (getRG l).1 (getRG l).1 = _ := e3 _ (by omega)
    rw [if_neg c, tget_eq l hB (by omega), Option.bind_some, f2, Option.bind_some, e1 _ (by omega), Option.bind_some, if_pos rfl, f3, Option.bind_some, if_pos (by simp)]
    simp
end Go.Proofs.Ytekgienbhpknlaa.Pure
