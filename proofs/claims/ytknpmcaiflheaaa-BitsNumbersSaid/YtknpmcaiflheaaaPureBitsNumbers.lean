/- A number is just the reference's bytes, or refused, and bytes are just its number: for any two ints and any row of at most 100 bytes (others are let go). -/
import Derived.Test.YtknpmcaiflheaaaQBitsNumRef
import Derived.Test.YtknpmcaiflheaaaQTurned
import Derived.Test.YtknpmcaiflheaaaPLx4
namespace Go.Proofs.Ytknpmcaiflheaaa.Pure
open Go Go.RowKit Go.Proofs.Ytknpmcaiflheaaa.Q Go.Proofs.Ytknpmcaiflheaaa.PL Go.Proofs.YtknpmcaiflheaaaW.PrintWords Go.Proofs.YtknpmcaiflheaaaW.PrintLast Go.Proofs.YtknpmcaiflheaaaW.PrintMore
theorem BitsNumbers : gatelinelaw01_BitsNumbers.Pure := by
  intro n size l hn _ _ _ hl
  have hB := isBytes_of hl
  have hN := i64_of hn
  obtain ⟨K1, e1⟩ := turned_ev
  obtain ⟨K2, e2⟩ := put_ev n size
  obtain ⟨K3, e3⟩ := refPut_ev n size hN.2
  obtain ⟨K4, e4⟩ := get_ev l hB
  obtain ⟨K5, e5⟩ := refGet_ev l hB
  obtain ⟨K6, e6⟩ := same_true (putR n size).1 (by have := putR_length n size; omega)
  refine ⟨K1 + K2 + K3 + K4 + K5 + K6, ?_⟩
  generalize hk : K1 + K2 + K3 + K4 + K5 + K6 = k
  have f2 : bits_Put.f k n size = _ := e2 k (by omega)
  have f3 : gatelineref01_Put.f k n size = _ := e3 k (by omega)
  have f4 : bits_Get.f k l = _ := e4 k (by omega)
  have f5 : gatelineref01_Get.f k l = _ := e5 k (by omega)
  have f6 : gatelineref01_Same.f k (putR n size).1 (putR n size).1 = _ := e6 k (by omega)
  unfold gatelinelaw01_BitsNumbers.f
  by_cases c1 : (l.length : Int) > 100
  · rw [if_pos c1]
  · rw [if_neg c1, f2, Option.bind_some, f3, Option.bind_some, f4, Option.bind_some, f5, Option.bind_some, e1 k (by omega), Option.bind_some, if_pos rfl, f6, Option.bind_some, if_pos rfl, if_pos rfl, if_pos rfl]
    simp
end Go.Proofs.Ytknpmcaiflheaaa.Pure
