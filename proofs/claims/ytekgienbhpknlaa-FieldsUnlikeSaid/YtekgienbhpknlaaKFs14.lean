/- What the functions that this claim reaches do and answer: printed words and walks, walks by hand and plain laws, packed together, each with its own remark; printed rows are by the kit's print program, turned by this session. Conditions: those that each theorem states. -/
import Derived.Test.YtekgienbhpknlaaKA1
import Derived.Test.YtekgienbhpknlaaKA2
import Derived.Test.YtekgienbhpknlaaKA4
section
namespace Go.Proofs.Ytekgienbhpknlaa.PL
open Go.RowKit Go.Proofs.YtekgienbhpknlaaW.PrintWords Go.Proofs.YtekgienbhpknlaaW.PrintLast Go.Proofs.YtekgienbhpknlaaW.PrintMore
attribute [local go_sem] max2_int min2_int max_two min_two max_three min_three max_four min_four   -- for this text's walks alone
set_option linter.unusedVariables false
set_option linter.unusedSimpArgs false
attribute [local go_sem high] eqA46

/-! ### gatelinelaw18_told: function 32 (a contract proved by hand) -/
def gatelinelaw18_told.f  : Option (Bool) := some true
theorem gatelinelaw18_told.calls (r : Bool) (w : World) (h : gatelinelaw18_told.f  = some r) : Calls Try.prog 32 #[] w fun e w' => e = .returned (.bool r) ∧ Below w.heap.size w w' := by
  obtain rfl := Option.some.inj h
  exact G.told_calls w

end Go.Proofs.Ytekgienbhpknlaa.PL
end
