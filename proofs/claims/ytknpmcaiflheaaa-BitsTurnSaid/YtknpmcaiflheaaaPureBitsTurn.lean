/- A word's bits are turned just as the reference turns them: for any word of 32 bits and any int. -/
import Derived.Test.YtknpmcaiflheaaaQBits
import Derived.Test.YtknpmcaiflheaaaQTurned
import Derived.Test.YtknpmcaiflheaaaPLx3
namespace Go.Proofs.Ytknpmcaiflheaaa.Pure
open Go Go.RowKit Go.Proofs.Ytknpmcaiflheaaa.Q Go.Proofs.Ytknpmcaiflheaaa.PL Go.Proofs.YtknpmcaiflheaaaW.PrintWords Go.Proofs.YtknpmcaiflheaaaW.PrintLast Go.Proofs.YtknpmcaiflheaaaW.PrintMore
theorem BitsTurn : gatelinelaw01_BitsTurn.Pure := by
  intro x n hx hn
  obtain ⟨h0, h1⟩ := u32_of hx
  obtain ⟨K1, e1⟩ := turned_ev
  obtain ⟨K2, e2⟩ := rotRef_ev x n h0 h1
  refine ⟨K1 + K2, ?_⟩
  have e2' : gatelineref01_Rot.f (K1 + K2) x n = _ := e2 (K1 + K2) (by omega)
  unfold gatelinelaw01_BitsTurn.f
  rw [e1 _ (by omega), Option.bind_some, if_pos rfl, rot_some x n h0 h1, Option.bind_some, e2', Option.bind_some]
  simp
end Go.Proofs.Ytknpmcaiflheaaa.Pure
