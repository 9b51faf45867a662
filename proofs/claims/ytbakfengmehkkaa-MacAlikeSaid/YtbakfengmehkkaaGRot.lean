/- The walk of bits.Rot. -/
import Derived.Test.YtbakfengmehkkaaGArr
namespace Go.Proofs.Ytbakfengmehkkaa.G
open Go Go.RowKit Go.Proofs.YtbakfengmehkkaaW.PrintWords Go.Proofs.YtbakfengmehkkaaW.PrintLast Go.Proofs.YtbakfengmehkkaaW.PrintMore
/-- A word turned to the right by n bits. -/
def rotB (x n : Int) : Int := Go.bits .or .u32 (shr .u32 x n) (shl .u32 x (32 - n))
set_option maxRecDepth 100000 in
theorem rot_any (x n : Int) (w : World) (h : n = 2 ∨ n = 6 ∨ n = 7 ∨ n = 11 ∨ n = 13 ∨ n = 17 ∨ n = 18 ∨ n = 19 ∨ n = 22 ∨ n = 25) : Calls Try.prog 28 #[.int .u32 x, .int .i64 n] w fun e w' => e = .returned (.int .u32 (rotB x n)) ∧ w = w' := by
  have e1 : Go.bits .and .u64 (IntKind.u64.wrap n) 31 = n := by
    rcases h with rfl | rfl | rfl | rfl | rfl | rfl | rfl | rfl | rfl | rfl <;> decide +kernel
  have e2 : IntKind.u64.wrap (32 - n) = 32 - n := by
    rcases h with rfl | rfl | rfl | rfl | rfl | rfl | rfl | rfl | rfl | rfl <;> decide +kernel
  obtain ⟨m, hji3⟩ : ∃ j_ : Int, (Go.bits .and .u64 (IntKind.u64.wrap n) 31) = j_ := ⟨_, rfl⟩
  have em : m = n := hji3.symm.trans e1
  have c4 : 0 ≤ m := by omega
  have c4b0 := eq_true c4
  have c4b1 : decide (0 ≤ m) = true := decide_eq_true c4
  obtain ⟨ji5, hji5⟩ : ∃ j_ : Int, (shr .u32 x m) = j_ := ⟨_, rfl⟩
  have hji5_ : (x / 2 ^ min m.toNat 32) = ji5 := hji5
  have hji5z : m ≤ 32 → (x / 2 ^ m.toNat) = ji5 := shr_small hji5
  obtain ⟨ji6, hji6⟩ : ∃ j_ : Int, (IntKind.u64.wrap (32 - m)) = j_ := ⟨_, rfl⟩
  have em6 : ji6 = 32 - n := by rw [← hji6, em]; exact e2
  have c7 : 0 ≤ ji6 := by omega
  have c7b0 := eq_true c7
  have c7b1 : decide (0 ≤ ji6) = true := decide_eq_true c7
  obtain ⟨ji8, hji8⟩ : ∃ j_ : Int, (shl .u32 x ji6) = j_ := ⟨_, rfl⟩
  have hji8_ : (IntKind.u32.wrap (x * 2 ^ min ji6.toNat 32)) = ji8 := hji8
  have hji8z : ji6 ≤ 32 → (IntKind.u32.wrap (x * 2 ^ ji6.toNat)) = ji8 := shl_small hji8
  have HR : Aside0 (rotB x n = Go.bits .or .u32 ji5 ji8) := ⟨by rw [← hji5, ← hji8, em, em6]; rfl⟩
  clear e1 e2 h em em6 c4 c7
  go_enter Try.func28, Try.ntmps28
  go_wp2
  go_ret
  exact ⟨by rw [HR.out]; rfl, rfl⟩
end Go.Proofs.Ytbakfengmehkkaa.G
