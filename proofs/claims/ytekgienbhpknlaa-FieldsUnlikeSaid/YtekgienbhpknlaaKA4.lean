/- What the functions that this claim reaches do and answer: printed words and walks, walks by hand and plain laws, packed together, each with its own remark; printed rows are by the kit's print program, turned by this session. Conditions: those that each theorem states. -/
import Derived.Test.YtekgienbhpknlaaKA3
import Derived.Test.YtekgienbhpknlaaKA2
import Derived.Test.YtekgienbhpknlaaKA1
section
namespace Go.Proofs.Ytekgienbhpknlaa.G
open Go Go.RowKit
def tSnd : Option Code → Option Code | some (.seq _ b) => some b | _ => none
def tFst : Option Code → Option Code | some (.seq a _) => some a | _ => none
def t15 (f : Func) : Option Code := tFst (tSnd (tSnd (tSnd (tSnd (tSnd (tSnd (tSnd (tSnd (tSnd (tSnd (tSnd (tSnd (tSnd (tSnd (tSnd (f.body))))))))))))))))
def ops15 (f : Func) : Array Oper := match t15 f with | some (.region _ o _) => o | _ => #[]
inductive T15 : Array Bool → List Nat → Prop
  | c_10_12_14_16 : T15 #[true, true, true, true, true, true, true, true, true, true, false, false, false, false, false, false, false, false, false, false, false, false, false, false, false, false, false, false, false, false, false, false, false, false, false, false, false, false, false, false, false, false, false, false, false, false, false, false, false, false, false, false, false, false, false, false, false, false, false, false, false, false, false, false, false, false, false, false, false, false, false] ([10, 12, 14, 16] : List Nat)
  | c_10_12_14 : T15 #[true, true, true, true, true, true, true, true, true, true, false, false, false, false, false, false, true, true, false, false, false, false, false, false, false, false, false, false, false, false, false, false, false, false, false, false, false, false, false, false, false, false, false, false, false, false, false, false, false, false, false, false, false, false, false, false, false, false, false, false, false, false, false, false, false, false, false, false, false, false, false] ([10, 12, 14] : List Nat)
  | c_10_12_16 : T15 #[true, true, true, true, true, true, true, true, true, true, false, false, false, false, true, true, false, false, false, false, false, false, false, false, false, false, false, false, false, false, false, false, false, false, false, false, false, false, false, false, false, false, false, false, false, false, false, false, false, false, false, false, false, false, false, false, false, false, false, false, false, false, false, false, false, false, false, false, false, false, false] ([10, 12, 16] : List Nat)
  | c_10_14_16 : T15 #[true, true, true, true, true, true, true, true, true, true, false, false, true, true, false, false, false, false, false, false, false, false, false, false, false, false, false, false, false, false, false, false, false, false, false, false, false, false, false, false, false, false, false, false, false, false, false, false, false, false, false, false, false, false, false, false, false, false, false, false, false, false, false, false, false, false, false, false, false, false, false] ([10, 14, 16] : List Nat)
  | c_12_14_16 : T15 #[true, true, true, true, true, true, true, true, true, true, true, true, false, false, false, false, false, false, false, false, false, false, false, false, false, false, false, false, false, false, false, false, false, false, false, false, false, false, false, false, false, false, false, false, false, false, false, false, false, false, false, false, false, false, false, false, false, false, false, false, false, false, false, false, false, false, false, false, false, false, false] ([12, 14, 16] : List Nat)
  | c_10_12 : T15 #[true, true, true, true, true, true, true, true, true, true, false, false, false, false, true, true, true, true, false, false, false, false, false, false, false, false, false, false, false, false, false, false, false, false, false, false, false, false, false, false, false, false, false, false, false, false, false, false, false, false, false, false, false, false, false, false, false, false, false, false, false, false, false, false, false, false, false, false, false, false, false] ([10, 12] : List Nat)
  | c_10_14 : T15 #[true, true, true, true, true, true, true, true, true, true, false, false, true, true, false, false, true, true, false, false, false, false, false, false, false, false, false, false, false, false, false, false, false, false, false, false, false, false, false, false, false, false, false, false, false, false, false, false, false, false, false, false, false, false, false, false, false, false, false, false, false, false, false, false, false, false, false, false, false, false, false] ([10, 14] : List Nat)
  | c_10_16 : T15 #[true, true, true, true, true, true, true, true, true, true, false, false, true, true, true, true, false, false, false, false, false, false, false, false, false, false, false, false, false, false, false, false, false, false, false, false, false, false, false, false, false, false, false, false, false, false, false, false, false, false, false, false, false, false, false, false, false, false, false, false, false, false, false, false, false, false, false, false, false, false, false] ([10, 16] : List Nat)
  | c_12_14 : T15 #[true, true, true, true, true, true, true, true, true, true, true, true, false, false, false, false, true, true, false, false, false, false, false, false, false, false, false, false, false, false, false, false, false, false, false, false, false, false, false, false, false, false, false, false, false, false, false, false, false, false, false, false, false, false, false, false, false, false, false, false, false, false, false, false, false, false, false, false, false, false, false] ([12, 14] : List Nat)
  | c_12_16 : T15 #[true, true, true, true, true, true, true, true, true, true, true, true, false, false, true, true, false, false, false, false, false, false, false, false, false, false, false, false, false, false, false, false, false, false, false, false, false, false, false, false, false, false, false, false, false, false, false, false, false, false, false, false, false, false, false, false, false, false, false, false, false, false, false, false, false, false, false, false, false, false, false] ([12, 16] : List Nat)
  | c_14_16 : T15 #[true, true, true, true, true, true, true, true, true, true, true, true, true, true, false, false, false, false, false, false, false, false, false, false, false, false, false, false, false, false, false, false, false, false, false, false, false, false, false, false, false, false, false, false, false, false, false, false, false, false, false, false, false, false, false, false, false, false, false, false, false, false, false, false, false, false, false, false, false, false, false] ([14, 16] : List Nat)
  | c_10 : T15 #[true, true, true, true, true, true, true, true, true, true, false, false, true, true, true, true, true, true, false, false, false, false, false, false, false, false, false, false, false, false, false, false, false, false, false, false, false, false, false, false, false, false, false, false, false, false, false, false, false, false, false, false, false, false, false, false, false, false, false, false, false, false, false, false, false, false, false, false, false, false, false] ([10] : List Nat)
  | c_12 : T15 #[true, true, true, true, true, true, true, true, true, true, true, true, false, false, true, true, true, true, false, false, false, false, false, false, false, false, false, false, false, false, false, false, false, false, false, false, false, false, false, false, false, false, false, false, false, false, false, false, false, false, false, false, false, false, false, false, false, false, false, false, false, false, false, false, false, false, false, false, false, false, false] ([12] : List Nat)
  | c_14 : T15 #[true, true, true, true, true, true, true, true, true, true, true, true, true, true, false, false, true, true, false, false, false, false, false, false, false, false, false, false, false, false, false, false, false, false, false, false, false, false, false, false, false, false, false, false, false, false, false, false, false, false, false, false, false, false, false, false, false, false, false, false, false, false, false, false, false, false, false, false, false, false, false] ([14] : List Nat)
  | c_16 : T15 #[true, true, true, true, true, true, true, true, true, true, true, true, true, true, true, true, false, false, false, false, false, false, false, false, false, false, false, false, false, false, false, false, false, false, false, false, false, false, false, false, false, false, false, false, false, false, false, false, false, false, false, false, false, false, false, false, false, false, false, false, false, false, false, false, false, false, false, false, false, false, false] ([16] : List Nat)
  | c : T15 #[true, true, true, true, true, true, true, true, true, true, true, true, true, true, true, true, true, true, false, false, false, false, false, false, false, false, false, false, false, false, false, false, false, false, false, false, false, false, false, false, false, false, false, false, false, false, false, false, false, false, false, false, false, false, false, false, false, false, false, false, false, false, false, false, false, false, false, false, false, false, false] ([] : List Nat)
theorem rc_10_12_14_16 : Region.ready .any (ops15 Try.f32) #[true, true, true, true, true, true, true, true, true, true, false, false, false, false, false, false, false, false, false, false, false, false, false, false, false, false, false, false, false, false, false, false, false, false, false, false, false, false, false, false, false, false, false, false, false, false, false, false, false, false, false, false, false, false, false, false, false, false, false, false, false, false, false, false, false, false, false, false, false, false, false] = ([10, 12, 14, 16] : List Nat) := by kernel_rfl
theorem fc_10_12_14_16_at10 : Region.free .any (ops15 Try.f32) #[true, true, true, true, true, true, true, true, true, true, true, false, false, false, false, false, false, false, false, false, false, false, false, false, false, false, false, false, false, false, false, false, false, false, false, false, false, false, false, false, false, false, false, false, false, false, false, false, false, false, false, false, false, false, false, false, false, false, false, false, false, false, false, false, false, false, false, false, false, false, false] 11 = true ∧ (Region.ready .any (ops15 Try.f32) #[true, true, true, true, true, true, true, true, true, true, true, false, false, false, false, false, false, false, false, false, false, false, false, false, false, false, false, false, false, false, false, false, false, false, false, false, false, false, false, false, false, false, false, false, false, false, false, false, false, false, false, false, false, false, false, false, false, false, false, false, false, false, false, false, false, false, false, false, false, false, false]).contains 11 = true := ⟨by kernel_rfl, by kernel_rfl⟩
theorem fc_10_12_14_16_at12 : Region.free .any (ops15 Try.f32) #[true, true, true, true, true, true, true, true, true, true, false, false, true, false, false, false, false, false, false, false, false, false, false, false, false, false, false, false, false, false, false, false, false, false, false, false, false, false, false, false, false, false, false, false, false, false, false, false, false, false, false, false, false, false, false, false, false, false, false, false, false, false, false, false, false, false, false, false, false, false, false] 13 = true ∧ (Region.ready .any (ops15 Try.f32) #[true, true, true, true, true, true, true, true, true, true, false, false, true, false, false, false, false, false, false, false, false, false, false, false, false, false, false, false, false, false, false, false, false, false, false, false, false, false, false, false, false, false, false, false, false, false, false, false, false, false, false, false, false, false, false, false, false, false, false, false, false, false, false, false, false, false, false, false, false, false, false]).contains 13 = true := ⟨by kernel_rfl, by kernel_rfl⟩
theorem fc_10_12_14_16_at14 : Region.free .any (ops15 Try.f32) #[true, true, true, true, true, true, true, true, true, true, false, false, false, false, true, false, false, false, false, false, false, false, false, false, false, false, false, false, false, false, false, false, false, false, false, false, false, false, false, false, false, false, false, false, false, false, false, false, false, false, false, false, false, false, false, false, false, false, false, false, false, false, false, false, false, false, false, false, false, false, false] 15 = true ∧ (Region.ready .any (ops15 Try.f32) #[true, true, true, true, true, true, true, true, true, true, false, false, false, false, true, false, false, false, false, false, false, false, false, false, false, false, false, false, false, false, false, false, false, false, false, false, false, false, false, false, false, false, false, false, false, false, false, false, false, false, false, false, false, false, false, false, false, false, false, false, false, false, false, false, false, false, false, false, false, false, false]).contains 15 = true := ⟨by kernel_rfl, by kernel_rfl⟩
theorem fc_10_12_14_16_at16 : Region.free .any (ops15 Try.f32) #[true, true, true, true, true, true, true, true, true, true, false, false, false, false, false, false, true, false, false, false, false, false, false, false, false, false, false, false, false, false, false, false, false, false, false, false, false, false, false, false, false, false, false, false, false, false, false, false, false, false, false, false, false, false, false, false, false, false, false, false, false, false, false, false, false, false, false, false, false, false, false] 17 = true ∧ (Region.ready .any (ops15 Try.f32) #[true, true, true, true, true, true, true, true, true, true, false, false, false, false, false, false, true, false, false, false, false, false, false, false, false, false, false, false, false, false, false, false, false, false, false, false, false, false, false, false, false, false, false, false, false, false, false, false, false, false, false, false, false, false, false, false, false, false, false, false, false, false, false, false, false, false, false, false, false, false, false]).contains 17 = true := ⟨by kernel_rfl, by kernel_rfl⟩
theorem rc_10_12_14 : Region.ready .any (ops15 Try.f32) #[true, true, true, true, true, true, true, true, true, true, false, false, false, false, false, false, true, true, false, false, false, false, false, false, false, false, false, false, false, false, false, false, false, false, false, false, false, false, false, false, false, false, false, false, false, false, false, false, false, false, false, false, false, false, false, false, false, false, false, false, false, false, false, false, false, false, false, false, false, false, false] = ([10, 12, 14] : List Nat) := by kernel_rfl
theorem fc_10_12_14_at10 : Region.free .any (ops15 Try.f32) #[true, true, true, true, true, true, true, true, true, true, true, false, false, false, false, false, true, true, false, false, false, false, false, false, false, false, false, false, false, false, false, false, false, false, false, false, false, false, false, false, false, false, false, false, false, false, false, false, false, false, false, false, false, false, false, false, false, false, false, false, false, false, false, false, false, false, false, false, false, false, false] 11 = true ∧ (Region.ready .any (ops15 Try.f32) #[true, true, true, true, true, true, true, true, true, true, true, false, false, false, false, false, true, true, false, false, false, false, false, false, false, false, false, false, false, false, false, false, false, false, false, false, false, false, false, false, false, false, false, false, false, false, false, false, false, false, false, false, false, false, false, false, false, false, false, false, false, false, false, false, false, false, false, false, false, false, false]).contains 11 = true := ⟨by kernel_rfl, by kernel_rfl⟩
theorem fc_10_12_14_at12 : Region.free .any (ops15 Try.f32) #[true, true, true, true, true, true, true, true, true, true, false, false, true, false, false, false, true, true, false, false, false, false, false, false, false, false, false, false, false, false, false, false, false, false, false, false, false, false, false, false, false, false, false, false, false, false, false, false, false, false, false, false, false, false, false, false, false, false, false, false, false, false, false, false, false, false, false, false, false, false, false] 13 = true ∧ (Region.ready .any (ops15 Try.f32) #[true, true, true, true, true, true, true, true, true, true, false, false, true, false, false, false, true, true, false, false, false, false, false, false, false, false, false, false, false, false, false, false, false, false, false, false, false, false, false, false, false, false, false, false, false, false, false, false, false, false, false, false, false, false, false, false, false, false, false, false, false, false, false, false, false, false, false, false, false, false, false]).contains 13 = true := ⟨by kernel_rfl, by kernel_rfl⟩
theorem fc_10_12_14_at14 : Region.free .any (ops15 Try.f32) #[true, true, true, true, true, true, true, true, true, true, false, false, false, false, true, false, true, true, false, false, false, false, false, false, false, false, false, false, false, false, false, false, false, false, false, false, false, false, false, false, false, false, false, false, false, false, false, false, false, false, false, false, false, false, false, false, false, false, false, false, false, false, false, false, false, false, false, false, false, false, false] 15 = true ∧ (Region.ready .any (ops15 Try.f32) #[true, true, true, true, true, true, true, true, true, true, false, false, false, false, true, false, true, true, false, false, false, false, false, false, false, false, false, false, false, false, false, false, false, false, false, false, false, false, false, false, false, false, false, false, false, false, false, false, false, false, false, false, false, false, false, false, false, false, false, false, false, false, false, false, false, false, false, false, false, false, false]).contains 15 = true := ⟨by kernel_rfl, by kernel_rfl⟩
theorem rc_10_12_16 : Region.ready .any (ops15 Try.f32) #[true, true, true, true, true, true, true, true, true, true, false, false, false, false, true, true, false, false, false, false, false, false, false, false, false, false, false, false, false, false, false, false, false, false, false, false, false, false, false, false, false, false, false, false, false, false, false, false, false, false, false, false, false, false, false, false, false, false, false, false, false, false, false, false, false, false, false, false, false, false, false] = ([10, 12, 16] : List Nat) := by kernel_rfl
theorem fc_10_12_16_at10 : Region.free .any (ops15 Try.f32) #[true, true, true, true, true, true, true, true, true, true, true, false, false, false, true, true, false, false, false, false, false, false, false, false, false, false, false, false, false, false, false, false, false, false, false, false, false, false, false, false, false, false, false, false, false, false, false, false, false, false, false, false, false, false, false, false, false, false, false, false, false, false, false, false, false, false, false, false, false, false, false] 11 = true ∧ (Region.ready .any (ops15 Try.f32) #[true, true, true, true, true, true, true, true, true, true, true, false, false, false, true, true, false, false, false, false, false, false, false, false, false, false, false, false, false, false, false, false, false, false, false, false, false, false, false, false, false, false, false, false, false, false, false, false, false, false, false, false, false, false, false, false, false, false, false, false, false, false, false, false, false, false, false, false, false, false, false]).contains 11 = true := ⟨by kernel_rfl, by kernel_rfl⟩
theorem fc_10_12_16_at12 : Region.free .any (ops15 Try.f32) #[true, true, true, true, true, true, true, true, true, true, false, false, true, false, true, true, false, false, false, false, false, false, false, false, false, false, false, false, false, false, false, false, false, false, false, false, false, false, false, false, false, false, false, false, false, false, false, false, false, false, false, false, false, false, false, false, false, false, false, false, false, false, false, false, false, false, false, false, false, false, false] 13 = true ∧ (Region.ready .any (ops15 Try.f32) #[true, true, true, true, true, true, true, true, true, true, false, false, true, false, true, true, false, false, false, false, false, false, false, false, false, false, false, false, false, false, false, false, false, false, false, false, false, false, false, false, false, false, false, false, false, false, false, false, false, false, false, false, false, false, false, false, false, false, false, false, false, false, false, false, false, false, false, false, false, false, false]).contains 13 = true := ⟨by kernel_rfl, by kernel_rfl⟩
theorem fc_10_12_16_at16 : Region.free .any (ops15 Try.f32) #[true, true, true, true, true, true, true, true, true, true, false, false, false, false, true, true, true, false, false, false, false, false, false, false, false, false, false, false, false, false, false, false, false, false, false, false, false, false, false, false, false, false, false, false, false, false, false, false, false, false, false, false, false, false, false, false, false, false, false, false, false, false, false, false, false, false, false, false, false, false, false] 17 = true ∧ (Region.ready .any (ops15 Try.f32) #[true, true, true, true, true, true, true, true, true, true, false, false, false, false, true, true, true, false, false, false, false, false, false, false, false, false, false, false, false, false, false, false, false, false, false, false, false, false, false, false, false, false, false, false, false, false, false, false, false, false, false, false, false, false, false, false, false, false, false, false, false, false, false, false, false, false, false, false, false, false, false]).contains 17 = true := ⟨by kernel_rfl, by kernel_rfl⟩
theorem rc_10_14_16 : Region.ready .any (ops15 Try.f32) #[true, true, true, true, true, true, true, true, true, true, false, false, true, true, false, false, false, false, false, false, false, false, false, false, false, false, false, false, false, false, false, false, false, false, false, false, false, false, false, false, false, false, false, false, false, false, false, false, false, false, false, false, false, false, false, false, false, false, false, false, false, false, false, false, false, false, false, false, false, false, false] = ([10, 14, 16] : List Nat) := by kernel_rfl
theorem fc_10_14_16_at10 : Region.free .any (ops15 Try.f32) #[true, true, true, true, true, true, true, true, true, true, true, false, true, true, false, false, false, false, false, false, false, false, false, false, false, false, false, false, false, false, false, false, false, false, false, false, false, false, false, false, false, false, false, false, false, false, false, false, false, false, false, false, false, false, false, false, false, false, false, false, false, false, false, false, false, false, false, false, false, false, false] 11 = true ∧ (Region.ready .any (ops15 Try.f32) #[true, true, true, true, true, true, true, true, true, true, true, false, true, true, false, false, false, false, false, false, false, false, false, false, false, false, false, false, false, false, false, false, false, false, false, false, false, false, false, false, false, false, false, false, false, false, false, false, false, false, false, false, false, false, false, false, false, false, false, false, false, false, false, false, false, false, false, false, false, false, false]).contains 11 = true := ⟨by kernel_rfl, by kernel_rfl⟩
theorem fc_10_14_16_at14 : Region.free .any (ops15 Try.f32) #[true, true, true, true, true, true, true, true, true, true, false, false, true, true, true, false, false, false, false, false, false, false, false, false, false, false, false, false, false, false, false, false, false, false, false, false, false, false, false, false, false, false, false, false, false, false, false, false, false, false, false, false, false, false, false, false, false, false, false, false, false, false, false, false, false, false, false, false, false, false, false] 15 = true ∧ (Region.ready .any (ops15 Try.f32) #[true, true, true, true, true, true, true, true, true, true, false, false, true, true, true, false, false, false, false, false, false, false, false, false, false, false, false, false, false, false, false, false, false, false, false, false, false, false, false, false, false, false, false, false, false, false, false, false, false, false, false, false, false, false, false, false, false, false, false, false, false, false, false, false, false, false, false, false, false, false, false]).contains 15 = true := ⟨by kernel_rfl, by kernel_rfl⟩
theorem fc_10_14_16_at16 : Region.free .any (ops15 Try.f32) #[true, true, true, true, true, true, true, true, true, true, false, false, true, true, false, false, true, false, false, false, false, false, false, false, false, false, false, false, false, false, false, false, false, false, false, false, false, false, false, false, false, false, false, false, false, false, false, false, false, false, false, false, false, false, false, false, false, false, false, false, false, false, false, false, false, false, false, false, false, false, false] 17 = true ∧ (Region.ready .any (ops15 Try.f32) #[true, true, true, true, true, true, true, true, true, true, false, false, true, true, false, false, true, false, false, false, false, false, false, false, false, false, false, false, false, false, false, false, false, false, false, false, false, false, false, false, false, false, false, false, false, false, false, false, false, false, false, false, false, false, false, false, false, false, false, false, false, false, false, false, false, false, false, false, false, false, false]).contains 17 = true := ⟨by kernel_rfl, by kernel_rfl⟩
theorem rc_12_14_16 : Region.ready .any (ops15 Try.f32) #[true, true, true, true, true, true, true, true, true, true, true, true, false, false, false, false, false, false, false, false, false, false, false, false, false, false, false, false, false, false, false, false, false, false, false, false, false, false, false, false, false, false, false, false, false, false, false, false, false, false, false, false, false, false, false, false, false, false, false, false, false, false, false, false, false, false, false, false, false, false, false] = ([12, 14, 16] : List Nat) := by kernel_rfl
theorem fc_12_14_16_at12 : Region.free .any (ops15 Try.f32) #[true, true, true, true, true, true, true, true, true, true, true, true, true, false, false, false, false, false, false, false, false, false, false, false, false, false, false, false, false, false, false, false, false, false, false, false, false, false, false, false, false, false, false, false, false, false, false, false, false, false, false, false, false, false, false, false, false, false, false, false, false, false, false, false, false, false, false, false, false, false, false] 13 = true ∧ (Region.ready .any (ops15 Try.f32) #[true, true, true, true, true, true, true, true, true, true, true, true, true, false, false, false, false, false, false, false, false, false, false, false, false, false, false, false, false, false, false, false, false, false, false, false, false, false, false, false, false, false, false, false, false, false, false, false, false, false, false, false, false, false, false, false, false, false, false, false, false, false, false, false, false, false, false, false, false, false, false]).contains 13 = true := ⟨by kernel_rfl, by kernel_rfl⟩
theorem fc_12_14_16_at14 : Region.free .any (ops15 Try.f32) #[true, true, true, true, true, true, true, true, true, true, true, true, false, false, true, false, false, false, false, false, false, false, false, false, false, false, false, false, false, false, false, false, false, false, false, false, false, false, false, false, false, false, false, false, false, false, false, false, false, false, false, false, false, false, false, false, false, false, false, false, false, false, false, false, false, false, false, false, false, false, false] 15 = true ∧ (Region.ready .any (ops15 Try.f32) #[true, true, true, true, true, true, true, true, true, true, true, true, false, false, true, false, false, false, false, false, false, false, false, false, false, false, false, false, false, false, false, false, false, false, false, false, false, false, false, false, false, false, false, false, false, false, false, false, false, false, false, false, false, false, false, false, false, false, false, false, false, false, false, false, false, false, false, false, false, false, false]).contains 15 = true := ⟨by kernel_rfl, by kernel_rfl⟩
theorem fc_12_14_16_at16 : Region.free .any (ops15 Try.f32) #[true, true, true, true, true, true, true, true, true, true, true, true, false, false, false, false, true, false, false, false, false, false, false, false, false, false, false, false, false, false, false, false, false, false, false, false, false, false, false, false, false, false, false, false, false, false, false, false, false, false, false, false, false, false, false, false, false, false, false, false, false, false, false, false, false, false, false, false, false, false, false] 17 = true ∧ (Region.ready .any (ops15 Try.f32) #[true, true, true, true, true, true, true, true, true, true, true, true, false, false, false, false, true, false, false, false, false, false, false, false, false, false, false, false, false, false, false, false, false, false, false, false, false, false, false, false, false, false, false, false, false, false, false, false, false, false, false, false, false, false, false, false, false, false, false, false, false, false, false, false, false, false, false, false, false, false, false]).contains 17 = true := ⟨by kernel_rfl, by kernel_rfl⟩
theorem rc_10_12 : Region.ready .any (ops15 Try.f32) #[true, true, true, true, true, true, true, true, true, true, false, false, false, false, true, true, true, true, false, false, false, false, false, false, false, false, false, false, false, false, false, false, false, false, false, false, false, false, false, false, false, false, false, false, false, false, false, false, false, false, false, false, false, false, false, false, false, false, false, false, false, false, false, false, false, false, false, false, false, false, false] = ([10, 12] : List Nat) := by kernel_rfl
theorem fc_10_12_at10 : Region.free .any (ops15 Try.f32) #[true, true, true, true, true, true, true, true, true, true, true, false, false, false, true, true, true, true, false, false, false, false, false, false, false, false, false, false, false, false, false, false, false, false, false, false, false, false, false, false, false, false, false, false, false, false, false, false, false, false, false, false, false, false, false, false, false, false, false, false, false, false, false, false, false, false, false, false, false, false, false] 11 = true ∧ (Region.ready .any (ops15 Try.f32) #[true, true, true, true, true, true, true, true, true, true, true, false, false, false, true, true, true, true, false, false, false, false, false, false, false, false, false, false, false, false, false, false, false, false, false, false, false, false, false, false, false, false, false, false, false, false, false, false, false, false, false, false, false, false, false, false, false, false, false, false, false, false, false, false, false, false, false, false, false, false, false]).contains 11 = true := ⟨by kernel_rfl, by kernel_rfl⟩
theorem fc_10_12_at12 : Region.free .any (ops15 Try.f32) #[true, true, true, true, true, true, true, true, true, true, false, false, true, false, true, true, true, true, false, false, false, false, false, false, false, false, false, false, false, false, false, false, false, false, false, false, false, false, false, false, false, false, false, false, false, false, false, false, false, false, false, false, false, false, false, false, false, false, false, false, false, false, false, false, false, false, false, false, false, false, false] 13 = true ∧ (Region.ready .any (ops15 Try.f32) #[true, true, true, true, true, true, true, true, true, true, false, false, true, false, true, true, true, true, false, false, false, false, false, false, false, false, false, false, false, false, false, false, false, false, false, false, false, false, false, false, false, false, false, false, false, false, false, false, false, false, false, false, false, false, false, false, false, false, false, false, false, false, false, false, false, false, false, false, false, false, false]).contains 13 = true := ⟨by kernel_rfl, by kernel_rfl⟩
theorem rc_10_14 : Region.ready .any (ops15 Try.f32) #[true, true, true, true, true, true, true, true, true, true, false, false, true, true, false, false, true, true, false, false, false, false, false, false, false, false, false, false, false, false, false, false, false, false, false, false, false, false, false, false, false, false, false, false, false, false, false, false, false, false, false, false, false, false, false, false, false, false, false, false, false, false, false, false, false, false, false, false, false, false, false] = ([10, 14] : List Nat) := by kernel_rfl
theorem fc_10_14_at10 : Region.free .any (ops15 Try.f32) #[true, true, true, true, true, true, true, true, true, true, true, false, true, true, false, false, true, true, false, false, false, false, false, false, false, false, false, false, false, false, false, false, false, false, false, false, false, false, false, false, false, false, false, false, false, false, false, false, false, false, false, false, false, false, false, false, false, false, false, false, false, false, false, false, false, false, false, false, false, false, false] 11 = true ∧ (Region.ready .any (ops15 Try.f32) #[true, true, true, true, true, true, true, true, true, true, true, false, true, true, false, false, true, true, false, false, false, false, false, false, false, false, false, false, false, false, false, false, false, false, false, false, false, false, false, false, false, false, false, false, false, false, false, false, false, false, false, false, false, false, false, false, false, false, false, false, false, false, false, false, false, false, false, false, false, false, false]).contains 11 = true := ⟨by kernel_rfl, by kernel_rfl⟩
theorem fc_10_14_at14 : Region.free .any (ops15 Try.f32) #[true, true, true, true, true, true, true, true, true, true, false, false, true, true, true, false, true, true, false, false, false, false, false, false, false, false, false, false, false, false, false, false, false, false, false, false, false, false, false, false, false, false, false, false, false, false, false, false, false, false, false, false, false, false, false, false, false, false, false, false, false, false, false, false, false, false, false, false, false, false, false] 15 = true ∧ (Region.ready .any (ops15 Try.f32) #[true, true, true, true, true, true, true, true, true, true, false, false, true, true, true, false, true, true, false, false, false, false, false, false, false, false, false, false, false, false, false, false, false, false, false, false, false, false, false, false, false, false, false, false, false, false, false, false, false, false, false, false, false, false, false, false, false, false, false, false, false, false, false, false, false, false, false, false, false, false, false]).contains 15 = true := ⟨by kernel_rfl, by kernel_rfl⟩
theorem rc_10_16 : Region.ready .any (ops15 Try.f32) #[true, true, true, true, true, true, true, true, true, true, false, false, true, true, true, true, false, false, false, false, false, false, false, false, false, false, false, false, false, false, false, false, false, false, false, false, false, false, false, false, false, false, false, false, false, false, false, false, false, false, false, false, false, false, false, false, false, false, false, false, false, false, false, false, false, false, false, false, false, false, false] = ([10, 16] : List Nat) := by kernel_rfl
theorem fc_10_16_at10 : Region.free .any (ops15 Try.f32) #[true, true, true, true, true, true, true, true, true, true, true, false, true, true, true, true, false, false, false, false, false, false, false, false, false, false, false, false, false, false, false, false, false, false, false, false, false, false, false, false, false, false, false, false, false, false, false, false, false, false, false, false, false, false, false, false, false, false, false, false, false, false, false, false, false, false, false, false, false, false, false] 11 = true ∧ (Region.ready .any (ops15 Try.f32) #[true, true, true, true, true, true, true, true, true, true, true, false, true, true, true, true, false, false, false, false, false, false, false, false, false, false, false, false, false, false, false, false, false, false, false, false, false, false, false, false, false, false, false, false, false, false, false, false, false, false, false, false, false, false, false, false, false, false, false, false, false, false, false, false, false, false, false, false, false, false, false]).contains 11 = true := ⟨by kernel_rfl, by kernel_rfl⟩
theorem fc_10_16_at16 : Region.free .any (ops15 Try.f32) #[true, true, true, true, true, true, true, true, true, true, false, false, true, true, true, true, true, false, false, false, false, false, false, false, false, false, false, false, false, false, false, false, false, false, false, false, false, false, false, false, false, false, false, false, false, false, false, false, false, false, false, false, false, false, false, false, false, false, false, false, false, false, false, false, false, false, false, false, false, false, false] 17 = true ∧ (Region.ready .any (ops15 Try.f32) #[true, true, true, true, true, true, true, true, true, true, false, false, true, true, true, true, true, false, false, false, false, false, false, false, false, false, false, false, false, false, false, false, false, false, false, false, false, false, false, false, false, false, false, false, false, false, false, false, false, false, false, false, false, false, false, false, false, false, false, false, false, false, false, false, false, false, false, false, false, false, false]).contains 17 = true := ⟨by kernel_rfl, by kernel_rfl⟩
theorem rc_12_14 : Region.ready .any (ops15 Try.f32) #[true, true, true, true, true, true, true, true, true, true, true, true, false, false, false, false, true, true, false, false, false, false, false, false, false, false, false, false, false, false, false, false, false, false, false, false, false, false, false, false, false, false, false, false, false, false, false, false, false, false, false, false, false, false, false, false, false, false, false, false, false, false, false, false, false, false, false, false, false, false, false] = ([12, 14] : List Nat) := by kernel_rfl
theorem fc_12_14_at12 : Region.free .any (ops15 Try.f32) #[true, true, true, true, true, true, true, true, true, true, true, true, true, false, false, false, true, true, false, false, false, false, false, false, false, false, false, false, false, false, false, false, false, false, false, false, false, false, false, false, false, false, false, false, false, false, false, false, false, false, false, false, false, false, false, false, false, false, false, false, false, false, false, false, false, false, false, false, false, false, false] 13 = true ∧ (Region.ready .any (ops15 Try.f32) #[true, true, true, true, true, true, true, true, true, true, true, true, true, false, false, false, true, true, false, false, false, false, false, false, false, false, false, false, false, false, false, false, false, false, false, false, false, false, false, false, false, false, false, false, false, false, false, false, false, false, false, false, false, false, false, false, false, false, false, false, false, false, false, false, false, false, false, false, false, false, false]).contains 13 = true := ⟨by kernel_rfl, by kernel_rfl⟩
theorem fc_12_14_at14 : Region.free .any (ops15 Try.f32) #[true, true, true, true, true, true, true, true, true, true, true, true, false, false, true, false, true, true, false, false, false, false, false, false, false, false, false, false, false, false, false, false, false, false, false, false, false, false, false, false, false, false, false, false, false, false, false, false, false, false, false, false, false, false, false, false, false, false, false, false, false, false, false, false, false, false, false, false, false, false, false] 15 = true ∧ (Region.ready .any (ops15 Try.f32) #[true, true, true, true, true, true, true, true, true, true, true, true, false, false, true, false, true, true, false, false, false, false, false, false, false, false, false, false, false, false, false, false, false, false, false, false, false, false, false, false, false, false, false, false, false, false, false, false, false, false, false, false, false, false, false, false, false, false, false, false, false, false, false, false, false, false, false, false, false, false, false]).contains 15 = true := ⟨by kernel_rfl, by kernel_rfl⟩
theorem rc_12_16 : Region.ready .any (ops15 Try.f32) #[true, true, true, true, true, true, true, true, true, true, true, true, false, false, true, true, false, false, false, false, false, false, false, false, false, false, false, false, false, false, false, false, false, false, false, false, false, false, false, false, false, false, false, false, false, false, false, false, false, false, false, false, false, false, false, false, false, false, false, false, false, false, false, false, false, false, false, false, false, false, false] = ([12, 16] : List Nat) := by kernel_rfl
theorem fc_12_16_at12 : Region.free .any (ops15 Try.f32) #[true, true, true, true, true, true, true, true, true, true, true, true, true, false, true, true, false, false, false, false, false, false, false, false, false, false, false, false, false, false, false, false, false, false, false, false, false, false, false, false, false, false, false, false, false, false, false, false, false, false, false, false, false, false, false, false, false, false, false, false, false, false, false, false, false, false, false, false, false, false, false] 13 = true ∧ (Region.ready .any (ops15 Try.f32) #[true, true, true, true, true, true, true, true, true, true, true, true, true, false, true, true, false, false, false, false, false, false, false, false, false, false, false, false, false, false, false, false, false, false, false, false, false, false, false, false, false, false, false, false, false, false, false, false, false, false, false, false, false, false, false, false, false, false, false, false, false, false, false, false, false, false, false, false, false, false, false]).contains 13 = true := ⟨by kernel_rfl, by kernel_rfl⟩
theorem fc_12_16_at16 : Region.free .any (ops15 Try.f32) #[true, true, true, true, true, true, true, true, true, true, true, true, false, false, true, true, true, false, false, false, false, false, false, false, false, false, false, false, false, false, false, false, false, false, false, false, false, false, false, false, false, false, false, false, false, false, false, false, false, false, false, false, false, false, false, false, false, false, false, false, false, false, false, false, false, false, false, false, false, false, false] 17 = true ∧ (Region.ready .any (ops15 Try.f32) #[true, true, true, true, true, true, true, true, true, true, true, true, false, false, true, true, true, false, false, false, false, false, false, false, false, false, false, false, false, false, false, false, false, false, false, false, false, false, false, false, false, false, false, false, false, false, false, false, false, false, false, false, false, false, false, false, false, false, false, false, false, false, false, false, false, false, false, false, false, false, false]).contains 17 = true := ⟨by kernel_rfl, by kernel_rfl⟩
theorem rc_14_16 : Region.ready .any (ops15 Try.f32) #[true, true, true, true, true, true, true, true, true, true, true, true, true, true, false, false, false, false, false, false, false, false, false, false, false, false, false, false, false, false, false, false, false, false, false, false, false, false, false, false, false, false, false, false, false, false, false, false, false, false, false, false, false, false, false, false, false, false, false, false, false, false, false, false, false, false, false, false, false, false, false] = ([14, 16] : List Nat) := by kernel_rfl
theorem fc_14_16_at14 : Region.free .any (ops15 Try.f32) #[true, true, true, true, true, true, true, true, true, true, true, true, true, true, true, false, false, false, false, false, false, false, false, false, false, false, false, false, false, false, false, false, false, false, false, false, false, false, false, false, false, false, false, false, false, false, false, false, false, false, false, false, false, false, false, false, false, false, false, false, false, false, false, false, false, false, false, false, false, false, false] 15 = true ∧ (Region.ready .any (ops15 Try.f32) #[true, true, true, true, true, true, true, true, true, true, true, true, true, true, true, false, false, false, false, false, false, false, false, false, false, false, false, false, false, false, false, false, false, false, false, false, false, false, false, false, false, false, false, false, false, false, false, false, false, false, false, false, false, false, false, false, false, false, false, false, false, false, false, false, false, false, false, false, false, false, false]).contains 15 = true := ⟨by kernel_rfl, by kernel_rfl⟩
theorem fc_14_16_at16 : Region.free .any (ops15 Try.f32) #[true, true, true, true, true, true, true, true, true, true, true, true, true, true, false, false, true, false, false, false, false, false, false, false, false, false, false, false, false, false, false, false, false, false, false, false, false, false, false, false, false, false, false, false, false, false, false, false, false, false, false, false, false, false, false, false, false, false, false, false, false, false, false, false, false, false, false, false, false, false, false] 17 = true ∧ (Region.ready .any (ops15 Try.f32) #[true, true, true, true, true, true, true, true, true, true, true, true, true, true, false, false, true, false, false, false, false, false, false, false, false, false, false, false, false, false, false, false, false, false, false, false, false, false, false, false, false, false, false, false, false, false, false, false, false, false, false, false, false, false, false, false, false, false, false, false, false, false, false, false, false, false, false, false, false, false, false]).contains 17 = true := ⟨by kernel_rfl, by kernel_rfl⟩
theorem rc_10 : Region.ready .any (ops15 Try.f32) #[true, true, true, true, true, true, true, true, true, true, false, false, true, true, true, true, true, true, false, false, false, false, false, false, false, false, false, false, false, false, false, false, false, false, false, false, false, false, false, false, false, false, false, false, false, false, false, false, false, false, false, false, false, false, false, false, false, false, false, false, false, false, false, false, false, false, false, false, false, false, false] = ([10] : List Nat) := by kernel_rfl
theorem fc_10_at10 : Region.free .any (ops15 Try.f32) #[true, true, true, true, true, true, true, true, true, true, true, false, true, true, true, true, true, true, false, false, false, false, false, false, false, false, false, false, false, false, false, false, false, false, false, false, false, false, false, false, false, false, false, false, false, false, false, false, false, false, false, false, false, false, false, false, false, false, false, false, false, false, false, false, false, false, false, false, false, false, false] 11 = true ∧ (Region.ready .any (ops15 Try.f32) #[true, true, true, true, true, true, true, true, true, true, true, false, true, true, true, true, true, true, false, false, false, false, false, false, false, false, false, false, false, false, false, false, false, false, false, false, false, false, false, false, false, false, false, false, false, false, false, false, false, false, false, false, false, false, false, false, false, false, false, false, false, false, false, false, false, false, false, false, false, false, false]).contains 11 = true := ⟨by kernel_rfl, by kernel_rfl⟩
theorem rc_12 : Region.ready .any (ops15 Try.f32) #[true, true, true, true, true, true, true, true, true, true, true, true, false, false, true, true, true, true, false, false, false, false, false, false, false, false, false, false, false, false, false, false, false, false, false, false, false, false, false, false, false, false, false, false, false, false, false, false, false, false, false, false, false, false, false, false, false, false, false, false, false, false, false, false, false, false, false, false, false, false, false] = ([12] : List Nat) := by kernel_rfl
theorem fc_12_at12 : Region.free .any (ops15 Try.f32) #[true, true, true, true, true, true, true, true, true, true, true, true, true, false, true, true, true, true, false, false, false, false, false, false, false, false, false, false, false, false, false, false, false, false, false, false, false, false, false, false, false, false, false, false, false, false, false, false, false, false, false, false, false, false, false, false, false, false, false, false, false, false, false, false, false, false, false, false, false, false, false] 13 = true ∧ (Region.ready .any (ops15 Try.f32) #[true, true, true, true, true, true, true, true, true, true, true, true, true, false, true, true, true, true, false, false, false, false, false, false, false, false, false, false, false, false, false, false, false, false, false, false, false, false, false, false, false, false, false, false, false, false, false, false, false, false, false, false, false, false, false, false, false, false, false, false, false, false, false, false, false, false, false, false, false, false, false]).contains 13 = true := ⟨by kernel_rfl, by kernel_rfl⟩
theorem rc_14 : Region.ready .any (ops15 Try.f32) #[true, true, true, true, true, true, true, true, true, true, true, true, true, true, false, false, true, true, false, false, false, false, false, false, false, false, false, false, false, false, false, false, false, false, false, false, false, false, false, false, false, false, false, false, false, false, false, false, false, false, false, false, false, false, false, false, false, false, false, false, false, false, false, false, false, false, false, false, false, false, false] = ([14] : List Nat) := by kernel_rfl
theorem fc_14_at14 : Region.free .any (ops15 Try.f32) #[true, true, true, true, true, true, true, true, true, true, true, true, true, true, true, false, true, true, false, false, false, false, false, false, false, false, false, false, false, false, false, false, false, false, false, false, false, false, false, false, false, false, false, false, false, false, false, false, false, false, false, false, false, false, false, false, false, false, false, false, false, false, false, false, false, false, false, false, false, false, false] 15 = true ∧ (Region.ready .any (ops15 Try.f32) #[true, true, true, true, true, true, true, true, true, true, true, true, true, true, true, false, true, true, false, false, false, false, false, false, false, false, false, false, false, false, false, false, false, false, false, false, false, false, false, false, false, false, false, false, false, false, false, false, false, false, false, false, false, false, false, false, false, false, false, false, false, false, false, false, false, false, false, false, false, false, false]).contains 15 = true := ⟨by kernel_rfl, by kernel_rfl⟩
theorem rc_16 : Region.ready .any (ops15 Try.f32) #[true, true, true, true, true, true, true, true, true, true, true, true, true, true, true, true, false, false, false, false, false, false, false, false, false, false, false, false, false, false, false, false, false, false, false, false, false, false, false, false, false, false, false, false, false, false, false, false, false, false, false, false, false, false, false, false, false, false, false, false, false, false, false, false, false, false, false, false, false, false, false] = ([16] : List Nat) := by kernel_rfl
theorem fc_16_at16 : Region.free .any (ops15 Try.f32) #[true, true, true, true, true, true, true, true, true, true, true, true, true, true, true, true, true, false, false, false, false, false, false, false, false, false, false, false, false, false, false, false, false, false, false, false, false, false, false, false, false, false, false, false, false, false, false, false, false, false, false, false, false, false, false, false, false, false, false, false, false, false, false, false, false, false, false, false, false, false, false] 17 = true ∧ (Region.ready .any (ops15 Try.f32) #[true, true, true, true, true, true, true, true, true, true, true, true, true, true, true, true, true, false, false, false, false, false, false, false, false, false, false, false, false, false, false, false, false, false, false, false, false, false, false, false, false, false, false, false, false, false, false, false, false, false, false, false, false, false, false, false, false, false, false, false, false, false, false, false, false, false, false, false, false, false, false]).contains 17 = true := ⟨by kernel_rfl, by kernel_rfl⟩
theorem tc_10_12_14_16 (i : Nat) (hi : i ∈ ([10, 12, 14, 16] : List Nat)) : Region.free .any (ops15 Try.f32) ((#[true, true, true, true, true, true, true, true, true, true, false, false, false, false, false, false, false, false, false, false, false, false, false, false, false, false, false, false, false, false, false, false, false, false, false, false, false, false, false, false, false, false, false, false, false, false, false, false, false, false, false, false, false, false, false, false, false, false, false, false, false, false, false, false, false, false, false, false, false, false, false] : Array Bool).setIfInBounds i true) (i + 1) = true ∧ (Region.ready .any (ops15 Try.f32) ((#[true, true, true, true, true, true, true, true, true, true, false, false, false, false, false, false, false, false, false, false, false, false, false, false, false, false, false, false, false, false, false, false, false, false, false, false, false, false, false, false, false, false, false, false, false, false, false, false, false, false, false, false, false, false, false, false, false, false, false, false, false, false, false, false, false, false, false, false, false, false, false] : Array Bool).setIfInBounds i true)).contains (i + 1) = true ∧ T15 (((#[true, true, true, true, true, true, true, true, true, true, false, false, false, false, false, false, false, false, false, false, false, false, false, false, false, false, false, false, false, false, false, false, false, false, false, false, false, false, false, false, false, false, false, false, false, false, false, false, false, false, false, false, false, false, false, false, false, false, false, false, false, false, false, false, false, false, false, false, false, false, false] : Array Bool).setIfInBounds i true).setIfInBounds (i + 1) true) (([10, 12, 14, 16] : List Nat).erase i) := by
  have hi4 : i = 10 ∨ i = 12 ∨ i = 14 ∨ i = 16 := by simpa using hi
  rcases hi4 with rfl | rfl | rfl | rfl
  · exact ⟨fc_10_12_14_16_at10.1, fc_10_12_14_16_at10.2, T15.c_12_14_16⟩
  · exact ⟨fc_10_12_14_16_at12.1, fc_10_12_14_16_at12.2, T15.c_10_14_16⟩
  · exact ⟨fc_10_12_14_16_at14.1, fc_10_12_14_16_at14.2, T15.c_10_12_16⟩
  · exact ⟨fc_10_12_14_16_at16.1, fc_10_12_14_16_at16.2, T15.c_10_12_14⟩
theorem tc_10_12_14 (i : Nat) (hi : i ∈ ([10, 12, 14] : List Nat)) : Region.free .any (ops15 Try.f32) ((#[true, true, true, true, true, true, true, true, true, true, false, false, false, false, false, false, true, true, false, false, false, false, false, false, false, false, false, false, false, false, false, false, false, false, false, false, false, false, false, false, false, false, false, false, false, false, false, false, false, false, false, false, false, false, false, false, false, false, false, false, false, false, false, false, false, false, false, false, false, false, false] : Array Bool).setIfInBounds i true) (i + 1) = true ∧ (Region.ready .any (ops15 Try.f32) ((#[true, true, true, true, true, true, true, true, true, true, false, false, false, false, false, false, true, true, false, false, false, false, false, false, false, false, false, false, false, false, false, false, false, false, false, false, false, false, false, false, false, false, false, false, false, false, false, false, false, false, false, false, false, false, false, false, false, false, false, false, false, false, false, false, false, false, false, false, false, false, false] : Array Bool).setIfInBounds i true)).contains (i + 1) = true ∧ T15 (((#[true, true, true, true, true, true, true, true, true, true, false, false, false, false, false, false, true, true, false, false, false, false, false, false, false, false, false, false, false, false, false, false, false, false, false, false, false, false, false, false, false, false, false, false, false, false, false, false, false, false, false, false, false, false, false, false, false, false, false, false, false, false, false, false, false, false, false, false, false, false, false] : Array Bool).setIfInBounds i true).setIfInBounds (i + 1) true) (([10, 12, 14] : List Nat).erase i) := by
  have hi4 : i = 10 ∨ i = 12 ∨ i = 14 := by simpa using hi
  rcases hi4 with rfl | rfl | rfl
  · exact ⟨fc_10_12_14_at10.1, fc_10_12_14_at10.2, T15.c_12_14⟩
  · exact ⟨fc_10_12_14_at12.1, fc_10_12_14_at12.2, T15.c_10_14⟩
  · exact ⟨fc_10_12_14_at14.1, fc_10_12_14_at14.2, T15.c_10_12⟩
theorem tc_10_12_16 (i : Nat) (hi : i ∈ ([10, 12, 16] : List Nat)) : Region.free .any (ops15 Try.f32) ((#[true, true, true, true, true, true, true, true, true, true, false, false, false, false, true, true, false, false, false, false, false, false, false, false, false, false, false, false, false, false, false, false, false, false, false, false, false, false, false, false, false, false, false, false, false, false, false, false, false, false, false, false, false, false, false, false, false, false, false, false, false, false, false, false, false, false, false, false, false, false, false] : Array Bool).setIfInBounds i true) (i + 1) = true ∧ (Region.ready .any (ops15 Try.f32) ((#[true, true, true, true, true, true, true, true, true, true, false, false, false, false, true, true, false, false, false, false, false, false, false, false, false, false, false, false, false, false, false, false, false, false, false, false, false, false, false, false, false, false, false, false, false, false, false, false, false, false, false, false, false, false, false, false, false, false, false, false, false, false, false, false, false, false, false, false, false, false, false] : Array Bool).setIfInBounds i true)).contains (i + 1) = true ∧ T15 (((#[true, true, true, true, true, true, true, true, true, true, false, false, false, false, true, true, false, false, false, false, false, false, false, false, false, false, false, false, false, false, false, false, false, false, false, false, false, false, false, false, false, false, false, false, false, false, false, false, false, false, false, false, false, false, false, false, false, false, false, false, false, false, false, false, false, false, false, false, false, false, false] : Array Bool).setIfInBounds i true).setIfInBounds (i + 1) true) (([10, 12, 16] : List Nat).erase i) := by
  have hi4 : i = 10 ∨ i = 12 ∨ i = 16 := by simpa using hi
  rcases hi4 with rfl | rfl | rfl
  · exact ⟨fc_10_12_16_at10.1, fc_10_12_16_at10.2, T15.c_12_16⟩
  · exact ⟨fc_10_12_16_at12.1, fc_10_12_16_at12.2, T15.c_10_16⟩
  · exact ⟨fc_10_12_16_at16.1, fc_10_12_16_at16.2, T15.c_10_12⟩
theorem tc_10_14_16 (i : Nat) (hi : i ∈ ([10, 14, 16] : List Nat)) : Region.free .any (ops15 Try.f32) ((#[true, true, true, true, true, true, true, true, true, true, false, false, true, true, false, false, false, false, false, false, false, false, false, false, false, false, false, false, false, false, false, false, false, false, false, false, false, false, false, false, false, false, false, false, false, false, false, false, false, false, false, false, false, false, false, false, false, false, false, false, false, false, false, false, false, false, false, false, false, false, false] : Array Bool).setIfInBounds i true) (i + 1) = true ∧ (Region.ready .any (ops15 Try.f32) ((#[true, true, true, true, true, true, true, true, true, true, false, false, true, true, false, false, false, false, false, false, false, false, false, false, false, false, false, false, false, false, false, false, false, false, false, false, false, false, false, false, false, false, false, false, false, false, false, false, false, false, false, false, false, false, false, false, false, false, false, false, false, false, false, false, false, false, false, false, false, false, false] : Array Bool).setIfInBounds i true)).contains (i + 1) = true ∧ T15 (((#[true, true, true, true, true, true, true, true, true, true, false, false, true, true, false, false, false, false, false, false, false, false, false, false, false, false, false, false, false, false, false, false, false, false, false, false, false, false, false, false, false, false, false, false, false, false, false, false, false, false, false, false, false, false, false, false, false, false, false, false, false, false, false, false, false, false, false, false, false, false, false] : Array Bool).setIfInBounds i true).setIfInBounds (i + 1) true) (([10, 14, 16] : List Nat).erase i) := by
  have hi4 : i = 10 ∨ i = 14 ∨ i = 16 := by simpa using hi
  rcases hi4 with rfl | rfl | rfl
  · exact ⟨fc_10_14_16_at10.1, fc_10_14_16_at10.2, T15.c_14_16⟩
  · exact ⟨fc_10_14_16_at14.1, fc_10_14_16_at14.2, T15.c_10_16⟩
  · exact ⟨fc_10_14_16_at16.1, fc_10_14_16_at16.2, T15.c_10_14⟩
theorem tc_12_14_16 (i : Nat) (hi : i ∈ ([12, 14, 16] : List Nat)) : Region.free .any (ops15 Try.f32) ((#[true, true, true, true, true, true, true, true, true, true, true, true, false, false, false, false, false, false, false, false, false, false, false, false, false, false, false, false, false, false, false, false, false, false, false, false, false, false, false, false, false, false, false, false, false, false, false, false, false, false, false, false, false, false, false, false, false, false, false, false, false, false, false, false, false, false, false, false, false, false, false] : Array Bool).setIfInBounds i true) (i + 1) = true ∧ (Region.ready .any (ops15 Try.f32) ((#[true, true, true, true, true, true, true, true, true, true, true, true, false, false, false, false, false, false, false, false, false, false, false, false, false, false, false, false, false, false, false, false, false, false, false, false, false, false, false, false, false, false, false, false, false, false, false, false, false, false, false, false, false, false, false, false, false, false, false, false, false, false, false, false, false, false, false, false, false, false, false] : Array Bool).setIfInBounds i true)).contains (i + 1) = true ∧ T15 (((#[true, true, true, true, true, true, true, true, true, true, true, true, false, false, false, false, false, false, false, false, false, false, false, false, false, false, false, false, false, false, false, false, false, false, false, false, false, false, false, false, false, false, false, false, false, false, false, false, false, false, false, false, false, false, false, false, false, false, false, false, false, false, false, false, false, false, false, false, false, false, false] : Array Bool).setIfInBounds i true).setIfInBounds (i + 1) true) (([12, 14, 16] : List Nat).erase i) := by
  have hi4 : i = 12 ∨ i = 14 ∨ i = 16 := by simpa using hi
  rcases hi4 with rfl | rfl | rfl
  · exact ⟨fc_12_14_16_at12.1, fc_12_14_16_at12.2, T15.c_14_16⟩
  · exact ⟨fc_12_14_16_at14.1, fc_12_14_16_at14.2, T15.c_12_16⟩
  · exact ⟨fc_12_14_16_at16.1, fc_12_14_16_at16.2, T15.c_12_14⟩
theorem tc_10_12 (i : Nat) (hi : i ∈ ([10, 12] : List Nat)) : Region.free .any (ops15 Try.f32) ((#[true, true, true, true, true, true, true, true, true, true, false, false, false, false, true, true, true, true, false, false, false, false, false, false, false, false, false, false, false, false, false, false, false, false, false, false, false, false, false, false, false, false, false, false, false, false, false, false, false, false, false, false, false, false, false, false, false, false, false, false, false, false, false, false, false, false, false, false, false, false, false] : Array Bool).setIfInBounds i true) (i + 1) = true ∧ (Region.ready .any (ops15 Try.f32) ((#[true, true, true, true, true, true, true, true, true, true, false, false, false, false, true, true, true, true, false, false, false, false, false, false, false, false, false, false, false, false, false, false, false, false, false, false, false, false, false, false, false, false, false, false, false, false, false, false, false, false, false, false, false, false, false, false, false, false, false, false, false, false, false, false, false, false, false, false, false, false, false] : Array Bool).setIfInBounds i true)).contains (i + 1) = true ∧ T15 (((#[true, true, true, true, true, true, true, true, true, true, false, false, false, false, true, true, true, true, false, false, false, false, false, false, false, false, false, false, false, false, false, false, false, false, false, false, false, false, false, false, false, false, false, false, false, false, false, false, false, false, false, false, false, false, false, false, false, false, false, false, false, false, false, false, false, false, false, false, false, false, false] : Array Bool).setIfInBounds i true).setIfInBounds (i + 1) true) (([10, 12] : List Nat).erase i) := by
  have hi4 : i = 10 ∨ i = 12 := by simpa using hi
  rcases hi4 with rfl | rfl
  · exact ⟨fc_10_12_at10.1, fc_10_12_at10.2, T15.c_12⟩
  · exact ⟨fc_10_12_at12.1, fc_10_12_at12.2, T15.c_10⟩
theorem tc_10_14 (i : Nat) (hi : i ∈ ([10, 14] : List Nat)) : Region.free .any (ops15 Try.f32) ((#[true, true, true, true, true, true, true, true, true, true, false, false, true, true, false, false, true, true, false, false, false, false, false, false, false, false, false, false, false, false, false, false, false, false, false, false, false, false, false, false, false, false, false, false, false, false, false, false, false, false, false, false, false, false, false, false, false, false, false, false, false, false, false, false, false, false, false, false, false, false, false] : Array Bool).setIfInBounds i true) (i + 1) = true ∧ (Region.ready .any (ops15 Try.f32) ((#[true, true, true, true, true, true, true, true, true, true, false, false, true, true, false, false, true, true, false, false, false, false, false, false, false, false, false, false, false, false, false, false, false, false, false, false, false, false, false, false, false, false, false, false, false, false, false, false, false, false, false, false, false, false, false, false, false, false, false, false, false, false, false, false, false, false, false, false, false, false, false] : Array Bool).setIfInBounds i true)).contains (i + 1) = true ∧ T15 (((#[true, true, true, true, true, true, true, true, true, true, false, false, true, true, false, false, true, true, false, false, false, false, false, false, false, false, false, false, false, false, false, false, false, false, false, false, false, false, false, false, false, false, false, false, false, false, false, false, false, false, false, false, false, false, false, false, false, false, false, false, false, false, false, false, false, false, false, false, false, false, false] : Array Bool).setIfInBounds i true).setIfInBounds (i + 1) true) (([10, 14] : List Nat).erase i) := by
  have hi4 : i = 10 ∨ i = 14 := by simpa using hi
  rcases hi4 with rfl | rfl
  · exact ⟨fc_10_14_at10.1, fc_10_14_at10.2, T15.c_14⟩
  · exact ⟨fc_10_14_at14.1, fc_10_14_at14.2, T15.c_10⟩
theorem tc_10_16 (i : Nat) (hi : i ∈ ([10, 16] : List Nat)) : Region.free .any (ops15 Try.f32) ((#[true, true, true, true, true, true, true, true, true, true, false, false, true, true, true, true, false, false, false, false, false, false, false, false, false, false, false, false, false, false, false, false, false, false, false, false, false, false, false, false, false, false, false, false, false, false, false, false, false, false, false, false, false, false, false, false, false, false, false, false, false, false, false, false, false, false, false, false, false, false, false] : Array Bool).setIfInBounds i true) (i + 1) = true ∧ (Region.ready .any (ops15 Try.f32) ((#[true, true, true, true, true, true, true, true, true, true, false, false, true, true, true, true, false, false, false, false, false, false, false, false, false, false, false, false, false, false, false, false, false, false, false, false, false, false, false, false, false, false, false, false, false, false, false, false, false, false, false, false, false, false, false, false, false, false, false, false, false, false, false, false, false, false, false, false, false, false, false] : Array Bool).setIfInBounds i true)).contains (i + 1) = true ∧ T15 (((#[true, true, true, true, true, true, true, true, true, true, false, false, true, true, true, true, false, false, false, false, false, false, false, false, false, false, false, false, false, false, false, false, false, false, false, false, false, false, false, false, false, false, false, false, false, false, false, false, false, false, false, false, false, false, false, false, false, false, false, false, false, false, false, false, false, false, false, false, false, false, false] : Array Bool).setIfInBounds i true).setIfInBounds (i + 1) true) (([10, 16] : List Nat).erase i) := by
  have hi4 : i = 10 ∨ i = 16 := by simpa using hi
  rcases hi4 with rfl | rfl
  · exact ⟨fc_10_16_at10.1, fc_10_16_at10.2, T15.c_16⟩
  · exact ⟨fc_10_16_at16.1, fc_10_16_at16.2, T15.c_10⟩
theorem tc_12_14 (i : Nat) (hi : i ∈ ([12, 14] : List Nat)) : Region.free .any (ops15 Try.f32) ((#[true, true, true, true, true, true, true, true, true, true, true, true, false, false, false, false, true, true, false, false, false, false, false, false, false, false, false, false, false, false, false, false, false, false, false, false, false, false, false, false, false, false, false, false, false, false, false, false, false, false, false, false, false, false, false, false, false, false, false, false, false, false, false, false, false, false, false, false, false, false, false] : Array Bool).setIfInBounds i true) (i + 1) = true ∧ (Region.ready .any (ops15 Try.f32) ((#[true, true, true, true, true, true, true, true, true, true, true, true, false, false, false, false, true, true, false, false, false, false, false, false, false, false, false, false, false, false, false, false, false, false, false, false, false, false, false, false, false, false, false, false, false, false, false, false, false, false, false, false, false, false, false, false, false, false, false, false, false, false, false, false, false, false, false, false, false, false, false] : Array Bool).setIfInBounds i true)).contains (i + 1) = true ∧ T15 (((#[true, true, true, true, true, true, true, true, true, true, true, true, false, false, false, false, true, true, false, false, false, false, false, false, false, false, false, false, false, false, false, false, false, false, false, false, false, false, false, false, false, false, false, false, false, false, false, false, false, false, false, false, false, false, false, false, false, false, false, false, false, false, false, false, false, false, false, false, false, false, false] : Array Bool).setIfInBounds i true).setIfInBounds (i + 1) true) (([12, 14] : List Nat).erase i) := by
  have hi4 : i = 12 ∨ i = 14 := by simpa using hi
  rcases hi4 with rfl | rfl
  · exact ⟨fc_12_14_at12.1, fc_12_14_at12.2, T15.c_14⟩
  · exact ⟨fc_12_14_at14.1, fc_12_14_at14.2, T15.c_12⟩
theorem tc_12_16 (i : Nat) (hi : i ∈ ([12, 16] : List Nat)) : Region.free .any (ops15 Try.f32) ((#[true, true, true, true, true, true, true, true, true, true, true, true, false, false, true, true, false, false, false, false, false, false, false, false, false, false, false, false, false, false, false, false, false, false, false, false, false, false, false, false, false, false, false, false, false, false, false, false, false, false, false, false, false, false, false, false, false, false, false, false, false, false, false, false, false, false, false, false, false, false, false] : Array Bool).setIfInBounds i true) (i + 1) = true ∧ (Region.ready .any (ops15 Try.f32) ((#[true, true, true, true, true, true, true, true, true, true, true, true, false, false, true, true, false, false, false, false, false, false, false, false, false, false, false, false, false, false, false, false, false, false, false, false, false, false, false, false, false, false, false, false, false, false, false, false, false, false, false, false, false, false, false, false, false, false, false, false, false, false, false, false, false, false, false, false, false, false, false] : Array Bool).setIfInBounds i true)).contains (i + 1) = true ∧ T15 (((#[true, true, true, true, true, true, true, true, true, true, true, true, false, false, true, true, false, false, false, false, false, false, false, false, false, false, false, false, false, false, false, false, false, false, false, false, false, false, false, false, false, false, false, false, false, false, false, false, false, false, false, false, false, false, false, false, false, false, false, false, false, false, false, false, false, false, false, false, false, false, false] : Array Bool).setIfInBounds i true).setIfInBounds (i + 1) true) (([12, 16] : List Nat).erase i) := by
  have hi4 : i = 12 ∨ i = 16 := by simpa using hi
  rcases hi4 with rfl | rfl
  · exact ⟨fc_12_16_at12.1, fc_12_16_at12.2, T15.c_16⟩
  · exact ⟨fc_12_16_at16.1, fc_12_16_at16.2, T15.c_12⟩
theorem tc_14_16 (i : Nat) (hi : i ∈ ([14, 16] : List Nat)) : Region.free .any (ops15 Try.f32) ((#[true, true, true, true, true, true, true, true, true, true, true, true, true, true, false, false, false, false, false, false, false, false, false, false, false, false, false, false, false, false, false, false, false, false, false, false, false, false, false, false, false, false, false, false, false, false, false, false, false, false, false, false, false, false, false, false, false, false, false, false, false, false, false, false, false, false, false, false, false, false, false] : Array Bool).setIfInBounds i true) (i + 1) = true ∧ (Region.ready .any (ops15 Try.f32) ((#[true, true, true, true, true, true, true, true, true, true, true, true, true, true, false, false, false, false, false, false, false, false, false, false, false, false, false, false, false, false, false, false, false, false, false, false, false, false, false, false, false, false, false, false, false, false, false, false, false, false, false, false, false, false, false, false, false, false, false, false, false, false, false, false, false, false, false, false, false, false, false] : Array Bool).setIfInBounds i true)).contains (i + 1) = true ∧ T15 (((#[true, true, true, true, true, true, true, true, true, true, true, true, true, true, false, false, false, false, false, false, false, false, false, false, false, false, false, false, false, false, false, false, false, false, false, false, false, false, false, false, false, false, false, false, false, false, false, false, false, false, false, false, false, false, false, false, false, false, false, false, false, false, false, false, false, false, false, false, false, false, false] : Array Bool).setIfInBounds i true).setIfInBounds (i + 1) true) (([14, 16] : List Nat).erase i) := by
  have hi4 : i = 14 ∨ i = 16 := by simpa using hi
  rcases hi4 with rfl | rfl
  · exact ⟨fc_14_16_at14.1, fc_14_16_at14.2, T15.c_16⟩
  · exact ⟨fc_14_16_at16.1, fc_14_16_at16.2, T15.c_14⟩
theorem tc_10 (i : Nat) (hi : i ∈ ([10] : List Nat)) : Region.free .any (ops15 Try.f32) ((#[true, true, true, true, true, true, true, true, true, true, false, false, true, true, true, true, true, true, false, false, false, false, false, false, false, false, false, false, false, false, false, false, false, false, false, false, false, false, false, false, false, false, false, false, false, false, false, false, false, false, false, false, false, false, false, false, false, false, false, false, false, false, false, false, false, false, false, false, false, false, false] : Array Bool).setIfInBounds i true) (i + 1) = true ∧ (Region.ready .any (ops15 Try.f32) ((#[true, true, true, true, true, true, true, true, true, true, false, false, true, true, true, true, true, true, false, false, false, false, false, false, false, false, false, false, false, false, false, false, false, false, false, false, false, false, false, false, false, false, false, false, false, false, false, false, false, false, false, false, false, false, false, false, false, false, false, false, false, false, false, false, false, false, false, false, false, false, false] : Array Bool).setIfInBounds i true)).contains (i + 1) = true ∧ T15 (((#[true, true, true, true, true, true, true, true, true, true, false, false, true, true, true, true, true, true, false, false, false, false, false, false, false, false, false, false, false, false, false, false, false, false, false, false, false, false, false, false, false, false, false, false, false, false, false, false, false, false, false, false, false, false, false, false, false, false, false, false, false, false, false, false, false, false, false, false, false, false, false] : Array Bool).setIfInBounds i true).setIfInBounds (i + 1) true) (([10] : List Nat).erase i) := by
  have hi4 : i = 10 := by simpa using hi
  rcases hi4 with rfl
  · exact ⟨fc_10_at10.1, fc_10_at10.2, T15.c⟩
theorem tc_12 (i : Nat) (hi : i ∈ ([12] : List Nat)) : Region.free .any (ops15 Try.f32) ((#[true, true, true, true, true, true, true, true, true, true, true, true, false, false, true, true, true, true, false, false, false, false, false, false, false, false, false, false, false, false, false, false, false, false, false, false, false, false, false, false, false, false, false, false, false, false, false, false, false, false, false, false, false, false, false, false, false, false, false, false, false, false, false, false, false, false, false, false, false, false, false] : Array Bool).setIfInBounds i true) (i + 1) = true ∧ (Region.ready .any (ops15 Try.f32) ((#[true, true, true, true, true, true, true, true, true, true, true, true, false, false, true, true, true, true, false, false, false, false, false, false, false, false, false, false, false, false, false, false, false, false, false, false, false, false, false, false, false, false, false, false, false, false, false, false, false, false, false, false, false, false, false, false, false, false, false, false, false, false, false, false, false, false, false, false, false, false, false] : Array Bool).setIfInBounds i true)).contains (i + 1) = true ∧ T15 (((#[true, true, true, true, true, true, true, true, true, true, true, true, false, false, true, true, true, true, false, false, false, false, false, false, false, false, false, false, false, false, false, false, false, false, false, false, false, false, false, false, false, false, false, false, false, false, false, false, false, false, false, false, false, false, false, false, false, false, false, false, false, false, false, false, false, false, false, false, false, false, false] : Array Bool).setIfInBounds i true).setIfInBounds (i + 1) true) (([12] : List Nat).erase i) := by
  have hi4 : i = 12 := by simpa using hi
  rcases hi4 with rfl
  · exact ⟨fc_12_at12.1, fc_12_at12.2, T15.c⟩
theorem tc_14 (i : Nat) (hi : i ∈ ([14] : List Nat)) : Region.free .any (ops15 Try.f32) ((#[true, true, true, true, true, true, true, true, true, true, true, true, true, true, false, false, true, true, false, false, false, false, false, false, false, false, false, false, false, false, false, false, false, false, false, false, false, false, false, false, false, false, false, false, false, false, false, false, false, false, false, false, false, false, false, false, false, false, false, false, false, false, false, false, false, false, false, false, false, false, false] : Array Bool).setIfInBounds i true) (i + 1) = true ∧ (Region.ready .any (ops15 Try.f32) ((#[true, true, true, true, true, true, true, true, true, true, true, true, true, true, false, false, true, true, false, false, false, false, false, false, false, false, false, false, false, false, false, false, false, false, false, false, false, false, false, false, false, false, false, false, false, false, false, false, false, false, false, false, false, false, false, false, false, false, false, false, false, false, false, false, false, false, false, false, false, false, false] : Array Bool).setIfInBounds i true)).contains (i + 1) = true ∧ T15 (((#[true, true, true, true, true, true, true, true, true, true, true, true, true, true, false, false, true, true, false, false, false, false, false, false, false, false, false, false, false, false, false, false, false, false, false, false, false, false, false, false, false, false, false, false, false, false, false, false, false, false, false, false, false, false, false, false, false, false, false, false, false, false, false, false, false, false, false, false, false, false, false] : Array Bool).setIfInBounds i true).setIfInBounds (i + 1) true) (([14] : List Nat).erase i) := by
  have hi4 : i = 14 := by simpa using hi
  rcases hi4 with rfl
  · exact ⟨fc_14_at14.1, fc_14_at14.2, T15.c⟩
theorem tc_16 (i : Nat) (hi : i ∈ ([16] : List Nat)) : Region.free .any (ops15 Try.f32) ((#[true, true, true, true, true, true, true, true, true, true, true, true, true, true, true, true, false, false, false, false, false, false, false, false, false, false, false, false, false, false, false, false, false, false, false, false, false, false, false, false, false, false, false, false, false, false, false, false, false, false, false, false, false, false, false, false, false, false, false, false, false, false, false, false, false, false, false, false, false, false, false] : Array Bool).setIfInBounds i true) (i + 1) = true ∧ (Region.ready .any (ops15 Try.f32) ((#[true, true, true, true, true, true, true, true, true, true, true, true, true, true, true, true, false, false, false, false, false, false, false, false, false, false, false, false, false, false, false, false, false, false, false, false, false, false, false, false, false, false, false, false, false, false, false, false, false, false, false, false, false, false, false, false, false, false, false, false, false, false, false, false, false, false, false, false, false, false, false] : Array Bool).setIfInBounds i true)).contains (i + 1) = true ∧ T15 (((#[true, true, true, true, true, true, true, true, true, true, true, true, true, true, true, true, false, false, false, false, false, false, false, false, false, false, false, false, false, false, false, false, false, false, false, false, false, false, false, false, false, false, false, false, false, false, false, false, false, false, false, false, false, false, false, false, false, false, false, false, false, false, false, false, false, false, false, false, false, false, false] : Array Bool).setIfInBounds i true).setIfInBounds (i + 1) true) (([16] : List Nat).erase i) := by
  have hi4 : i = 16 := by simpa using hi
  rcases hi4 with rfl
  · exact ⟨fc_16_at16.1, fc_16_at16.2, T15.c⟩
theorem t15_ok (L : Array Bool) (is : List Nat) (h : T15 L is) (hne : is ≠ []) : Region.ready .any (ops15 Try.f32) L = is ∧ ∀ i ∈ is, Region.free .any (ops15 Try.f32) (L.setIfInBounds i true) (i + 1) = true ∧ (Region.ready .any (ops15 Try.f32) (L.setIfInBounds i true)).contains (i + 1) = true ∧ T15 ((L.setIfInBounds i true).setIfInBounds (i + 1) true) (is.erase i) := by
  cases h
  · exact ⟨rc_10_12_14_16, tc_10_12_14_16⟩
  · exact ⟨rc_10_12_14, tc_10_12_14⟩
  · exact ⟨rc_10_12_16, tc_10_12_16⟩
  · exact ⟨rc_10_14_16, tc_10_14_16⟩
  · exact ⟨rc_12_14_16, tc_12_14_16⟩
  · exact ⟨rc_10_12, tc_10_12⟩
  · exact ⟨rc_10_14, tc_10_14⟩
  · exact ⟨rc_10_16, tc_10_16⟩
  · exact ⟨rc_12_14, tc_12_14⟩
  · exact ⟨rc_12_16, tc_12_16⟩
  · exact ⟨rc_14_16, tc_14_16⟩
  · exact ⟨rc_10, tc_10⟩
  · exact ⟨rc_12, tc_12⟩
  · exact ⟨rc_14, tc_14⟩
  · exact ⟨rc_16, tc_16⟩
  · exact absurd rfl hne
theorem t15_nil (L : Array Bool) (h : T15 L []) : L = #[true, true, true, true, true, true, true, true, true, true, true, true, true, true, true, true, true, true, false, false, false, false, false, false, false, false, false, false, false, false, false, false, false, false, false, false, false, false, false, false, false, false, false, false, false, false, false, false, false, false, false, false, false, false, false, false, false, false, false, false, false, false, false, false, false, false, false, false, false, false, false] := by
  cases h
  rfl
end Go.Proofs.Ytekgienbhpknlaa.G
end
section
set_option linter.unusedVariables false
set_option linter.unusedSimpArgs false
namespace Go.Proofs.Ytekgienbhpknlaa.G
open Go Go.RowKit Go.Proofs.YtekgienbhpknlaaW.PrintWords Go.Proofs.YtekgienbhpknlaaW.PrintLast Go.Proofs.YtekgienbhpknlaaW.PrintMore Go.Proofs.Ytekgienbhpknlaa.PL Go.Proofs.Ytekgienbhpknlaa.Q
attribute [local go_sem high] eqA46
set_option maxRecDepth 100000 in
set_option maxHeartbeats 1000000 in
theorem plain_any (w : World) : Calls Try.prog 43 #[] w fun e w' => e = .returned (.agg (intsA plainL)) ∧ Below w.heap.size w w' := by
  go_enter Try.func43, Try.ntmps43
  go_wp2_with (first
    | (refine wpList_build_as rfl 46 _ rfl (intsA plainL) (by as_aux_lemma => kernel_rfl) ?_)
    | (refine wpList_store_blk rfl 46 (.tmp 0) (.tmp 2) rfl w.heap.size (intsA plainL) rfl rfl 46 _ (Blk.new w _ _) (by kernel_rfl) rfl (by kernel_rfl) ?_; intro w9 hv hg; have gb := Aside0.mk (below_grown ((Below.refl w.heap.size w).alloc (Nat.le_refl _) _) hg (Nat.le_refl _) (by simp only [World.size_alloc]; omega)); have gv := Aside0.mk hv; clear hv hg))
  exact bodyPost_ret (v := .agg (intsA plainL)) (results_cell_row (fn := Try.f43) (p := 0) (by rfl) _ _ w.heap.size 46 _ (0, 0) _ (by rfl) gv.out Try.underlying46 rfl (by kernel_rfl)) rfl ⟨rfl, gb.out⟩
theorem fget_val (A : Option Addr) (n cap : Nat) (l : List SF) (R : List Int) (e : Int) (w : World) (h : fgetR l = (R, e)) (hok : okF l = true) (hn : l.length = n) (hn2 : n ≤ 1000) (hr : Kd.C k40 w A n l) (hc : n ≤ cap) :
    Calls Try.prog 33 #[.slice A n cap] w fun x w' => x = .returned (.tuple #[.agg (intsA R), .int .i64 e]) ∧ Below w.heap.size w w' := by
  subst hn
  have := fget_any A cap l w hr hc (okF_bytes hok) (by omega)
  rw [h] at this
  exact this
theorem fput_val (v : Int) (l : List SF) (e : Int) (w : World) (h : fputR 300 1 0 20 2 1 0 10 1 1 0 5 0 0 v = (l, e)) :
    Calls Try.prog 28 #[.agg (intsA [300, 1, 0, 20, 2, 1, 0, 10, 1, 1, 0, 5, 0, 0, v])] w fun x w' => ∃ v0_ : Value, x = .returned (.tuple #[v0_, .int .i64 e]) ∧ Kd.N k40 40 w' w.heap.size (fun k_ => w.heap.size ≤ k_) v0_ l ∧ Below w.heap.size w w' :=
  fput_calls 300 1 0 20 2 1 0 10 1 1 0 5 0 0 v l e w h
/-- A row of bytes in a block of its own. -/
theorem C_bytes {W : World} {b : Nat} {l : List Int} {t : TypeId} (h : Blk W b (bytesA l) t) (hl : l.length ≤ 1000000) : Kd.C (Kd.int .u8) W (some ⟨b, 0, none⟩) l.length l :=
  Kd.C_of_reads (d := (0 : Int)) (h1 := fun _ => rfl) ⟨rfl, by omega, fun _ => ⟨_, rfl, fun i hi => by rw [show (⟨b, 0, none⟩ : Addr).add i = ⟨b, i, none⟩ from by unfold Addr.add; split <;> simp_all]; exact h.cell i _ (bytesA_at l i hi)⟩⟩
theorem addT (b i : Nat) : (⟨b, 0, none⟩ : Addr).add i = ⟨b, i, none⟩ := by unfold Addr.add; split <;> simp_all
theorem C_one {W : World} {b : Nat} {t : TypeId} {f0 : Int} {l0 : List Int} {A0 : Option Addr} {c0 : Nat} (h : Blk W b #[.int .i64 f0, .slice A0 l0.length c0] t) (h0 : Kd.C (Kd.int .u8) W A0 l0.length l0) (k0 : l0.length ≤ c0) : Kd.C k40 W (some ⟨b, 0, none⟩) 1 [⟨f0, l0⟩] := by
  refine ⟨rfl, by decide, fun _ => ⟨_, rfl, fun j p hp => ?_⟩⟩
  match j, hp with
  | 0, hp =>
    obtain rfl := Option.some.inj hp
    refine ⟨[.int .i64 f0, .slice A0 l0.length c0], rfl, k40_mk W _ k0 h0, fun i u hu => ?_⟩
    rw [addT]
    match i, hu with
    | 0, hu => exact h.cell _ _ hu
    | 1, hu => exact h.cell _ _ hu
theorem C_two {W : World} {b : Nat} {t : TypeId} {f0 f1 : Int} {l0 l1 : List Int} {A0 A1 : Option Addr} {c0 c1 : Nat} (h : Blk W b #[.int .i64 f0, .slice A0 l0.length c0, .int .i64 f1, .slice A1 l1.length c1] t) (h0 : Kd.C (Kd.int .u8) W A0 l0.length l0) (k0 : l0.length ≤ c0) (h1 : Kd.C (Kd.int .u8) W A1 l1.length l1) (k1 : l1.length ≤ c1) : Kd.C k40 W (some ⟨b, 0, none⟩) 2 [⟨f0, l0⟩, ⟨f1, l1⟩] := by
  refine ⟨rfl, by decide, fun _ => ⟨_, rfl, fun j p hp => ?_⟩⟩
  match j, hp with
  | 0, hp =>
    obtain rfl := Option.some.inj hp
    refine ⟨[.int .i64 f0, .slice A0 l0.length c0], rfl, k40_mk W _ k0 h0, fun i u hu => ?_⟩
    rw [addT]
    match i, hu with
    | 0, hu => exact h.cell _ _ hu
    | 1, hu => exact h.cell _ _ hu
  | 1, hp =>
    obtain rfl := Option.some.inj hp
    refine ⟨[.int .i64 f1, .slice A1 l1.length c1], rfl, k40_mk W _ k1 h1, fun i u hu => ?_⟩
    rw [addT]
    match i, hu with
    | 0, hu => exact h.cell _ _ hu
    | 1, hu => exact h.cell _ _ hu
theorem C_four {W : World} {b : Nat} {t : TypeId} {f0 f1 f2 f3 : Int} {l0 l1 l2 l3 : List Int} {A0 A1 A2 A3 : Option Addr} {c0 c1 c2 c3 : Nat} (h : Blk W b #[.int .i64 f0, .slice A0 l0.length c0, .int .i64 f1, .slice A1 l1.length c1, .int .i64 f2, .slice A2 l2.length c2, .int .i64 f3, .slice A3 l3.length c3] t) (h0 : Kd.C (Kd.int .u8) W A0 l0.length l0) (k0 : l0.length ≤ c0) (h1 : Kd.C (Kd.int .u8) W A1 l1.length l1) (k1 : l1.length ≤ c1) (h2 : Kd.C (Kd.int .u8) W A2 l2.length l2) (k2 : l2.length ≤ c2) (h3 : Kd.C (Kd.int .u8) W A3 l3.length l3) (k3 : l3.length ≤ c3) : Kd.C k40 W (some ⟨b, 0, none⟩) 4 [⟨f0, l0⟩, ⟨f1, l1⟩, ⟨f2, l2⟩, ⟨f3, l3⟩] := by
  refine ⟨rfl, by decide, fun _ => ⟨_, rfl, fun j p hp => ?_⟩⟩
  match j, hp with
  | 0, hp =>
    obtain rfl := Option.some.inj hp
    refine ⟨[.int .i64 f0, .slice A0 l0.length c0], rfl, k40_mk W _ k0 h0, fun i u hu => ?_⟩
    rw [addT]
    match i, hu with
    | 0, hu => exact h.cell _ _ hu
    | 1, hu => exact h.cell _ _ hu
  | 1, hp =>
    obtain rfl := Option.some.inj hp
    refine ⟨[.int .i64 f1, .slice A1 l1.length c1], rfl, k40_mk W _ k1 h1, fun i u hu => ?_⟩
    rw [addT]
    match i, hu with
    | 0, hu => exact h.cell _ _ hu
    | 1, hu => exact h.cell _ _ hu
  | 2, hp =>
    obtain rfl := Option.some.inj hp
    refine ⟨[.int .i64 f2, .slice A2 l2.length c2], rfl, k40_mk W _ k2 h2, fun i u hu => ?_⟩
    rw [addT]
    match i, hu with
    | 0, hu => exact h.cell _ _ hu
    | 1, hu => exact h.cell _ _ hu
  | 3, hp =>
    obtain rfl := Option.some.inj hp
    refine ⟨[.int .i64 f3, .slice A3 l3.length c3], rfl, k40_mk W _ k3 h3, fun i u hu => ?_⟩
    rw [addT]
    match i, hu with
    | 0, hu => exact h.cell _ _ hu
    | 1, hu => exact h.cell _ _ hu
/-- What stays: the reading's box, what was got, the fields. -/
structure TS (n1 n4 N : Nat) (A : Option Addr) (v : Int) (w W : World) : Prop where
  h1 : Blk W n1 (intsA [300, 1, 0, 20, 2, 1, 0, 10, 1, 1, 0, 5, 0, 0, v]) 46
  h4 : Blk W n4 (intsA plainL) 46
  hl : Kd.F k40 W (fun k => n1 < k ∧ k < N) A 9 l9
  hb : Below n1 w W
section
variable {n1 n4 N : Nat} {A : Option Addr} {v : Int} {w W W' : World}
theorem TS.drew (s : TS n1 n4 N A v w W) : TS n1 n4 N A v w W.drew := ⟨s.h1, s.h4, Kd.F_drew s.hl, below_drew1 s.hb⟩
theorem TS.drewN (s : TS n1 n4 N A v w W) (n : Nat) : TS n1 n4 N A v w (W.drewN n) := ⟨s.h1, s.h4, Kd.F_drewN s.hl n, pw_below_drewN s.hb n⟩
theorem TS.below (s : TS n1 n4 N A v w W) (hb : Below W.heap.size W W') : TS n1 n4 N A v w W' := ⟨s.h1.below hb s.h1.lt, s.h4.below hb s.h4.lt, Kd.F_below s.hl hb, s.hb.trans (hb.mono (Nat.le_of_lt s.h1.lt))⟩
theorem TS.alloc (s : TS n1 n4 N A v w W) (o : Obj) : TS n1 n4 N A v w (W.alloc o) := s.below (below_alloc (Below.refl _ _) o)
theorem TS.grown (s : TS n1 n4 N A v w W) {g : Nat} (hn : n1 < n4 ∧ N ≤ n4) (hg : W.grownBy W' (some g)) (h : n4 < g) : TS n1 n4 N A v w W' :=
  ⟨s.h1.grown hg (by omega), s.h4.grown hg (by omega), Kd.F_grown s.hl hg (fun k hk => by simp only [ne_eq, Option.some.injEq]; omega), below_grown s.hb hg (by omega) (Nat.le_of_lt s.h1.lt)⟩
theorem TS.put (s : TS n1 n4 N A v w W) (hn : n1 < n4 ∧ N ≤ n4) (v' : Int) : TS n1 n4 N A v' w (W.setCell ⟨n1, 14, none⟩ (.int .i64 v')) :=
  ⟨s.h1.put 14 _ rfl, s.h4.far (by show n4 ≠ n1; omega) _, Kd.F_far s.hl (fun k hk => by show k ≠ n1; omega) _, below_put s.hb (Nat.le_refl _) (Nat.le_of_lt s.h1.lt)⟩
end
/-- Eight temporaries are laid. -/
def P8 (a : Act) (x0 x1 x2 x3 x4 x5 x6 x7 : Value) : Act := ((((((((a.put (some 99) x0).put (some 100) x1).put (some 101) x2).put (some 102) x3).put (some 103) x4).put (some 104) x5).put (some 105) x6).put (some 106) x7)
theorem put_put (a : Act) (i j : Nat) (u v : Value) (h : i ≠ j) : (a.put (some i) u).put (some j) v = (a.put (some j) v).put (some i) u := by
  simp only [Act.put]
  rw [Array.setIfInBounds_comm _ _ h]
theorem put_same (a : Act) (i : Nat) (u v : Value) : (a.put (some i) u).put (some i) v = a.put (some i) v := by
  simp only [Act.put]
  rw [Array.setIfInBounds_setIfInBounds]
theorem P8_0 (a : Act) (x0 x1 x2 x3 x4 x5 x6 x7 v : Value) : (P8 a x0 x1 x2 x3 x4 x5 x6 x7).put (some 99) v = P8 a v x1 x2 x3 x4 x5 x6 x7 := by
  unfold P8
  rw [put_put _ 106 99 _ _ (by decide), put_put _ 105 99 _ _ (by decide), put_put _ 104 99 _ _ (by decide), put_put _ 103 99 _ _ (by decide), put_put _ 102 99 _ _ (by decide), put_put _ 101 99 _ _ (by decide), put_put _ 100 99 _ _ (by decide), put_same]
theorem P8_1 (a : Act) (x0 x1 x2 x3 x4 x5 x6 x7 v : Value) : (P8 a x0 x1 x2 x3 x4 x5 x6 x7).put (some 100) v = P8 a x0 v x2 x3 x4 x5 x6 x7 := by
  unfold P8
  rw [put_put _ 106 100 _ _ (by decide), put_put _ 105 100 _ _ (by decide), put_put _ 104 100 _ _ (by decide), put_put _ 103 100 _ _ (by decide), put_put _ 102 100 _ _ (by decide), put_put _ 101 100 _ _ (by decide), put_same]
theorem P8_2 (a : Act) (x0 x1 x2 x3 x4 x5 x6 x7 v : Value) : (P8 a x0 x1 x2 x3 x4 x5 x6 x7).put (some 101) v = P8 a x0 x1 v x3 x4 x5 x6 x7 := by
  unfold P8
  rw [put_put _ 106 101 _ _ (by decide), put_put _ 105 101 _ _ (by decide), put_put _ 104 101 _ _ (by decide), put_put _ 103 101 _ _ (by decide), put_put _ 102 101 _ _ (by decide), put_same]
theorem P8_3 (a : Act) (x0 x1 x2 x3 x4 x5 x6 x7 v : Value) : (P8 a x0 x1 x2 x3 x4 x5 x6 x7).put (some 102) v = P8 a x0 x1 x2 v x4 x5 x6 x7 := by
  unfold P8
  rw [put_put _ 106 102 _ _ (by decide), put_put _ 105 102 _ _ (by decide), put_put _ 104 102 _ _ (by decide), put_put _ 103 102 _ _ (by decide), put_same]
theorem P8_4 (a : Act) (x0 x1 x2 x3 x4 x5 x6 x7 v : Value) : (P8 a x0 x1 x2 x3 x4 x5 x6 x7).put (some 103) v = P8 a x0 x1 x2 x3 v x5 x6 x7 := by
  unfold P8
  rw [put_put _ 106 103 _ _ (by decide), put_put _ 105 103 _ _ (by decide), put_put _ 104 103 _ _ (by decide), put_same]
theorem P8_5 (a : Act) (x0 x1 x2 x3 x4 x5 x6 x7 v : Value) : (P8 a x0 x1 x2 x3 x4 x5 x6 x7).put (some 104) v = P8 a x0 x1 x2 x3 x4 v x6 x7 := by
  unfold P8
  rw [put_put _ 106 104 _ _ (by decide), put_put _ 105 104 _ _ (by decide), put_same]
theorem P8_6 (a : Act) (x0 x1 x2 x3 x4 x5 x6 x7 v : Value) : (P8 a x0 x1 x2 x3 x4 x5 x6 x7).put (some 105) v = P8 a x0 x1 x2 x3 x4 x5 v x7 := by
  unfold P8
  rw [put_put _ 106 105 _ _ (by decide), put_same]
theorem P8_7 (a : Act) (x0 x1 x2 x3 x4 x5 x6 x7 v : Value) : (P8 a x0 x1 x2 x3 x4 x5 x6 x7).put (some 106) v = P8 a x0 x1 x2 x3 x4 x5 x6 v := by
  unfold P8
  rw [put_same]
theorem P8_g0 (a : Act) (x0 x1 x2 x3 x4 x5 x6 x7 : Value) (h : 106 < a.tmps.size) : (P8 a x0 x1 x2 x3 x4 x5 x6 x7).eval (.tmp 99) = x0 := by
  have h1 : 99 < a.tmps.size := by omega
  simp [P8, Act.put, Act.eval, Array.getElem_setIfInBounds, h1]
theorem P8_g2 (a : Act) (x0 x1 x2 x3 x4 x5 x6 x7 : Value) (h : 106 < a.tmps.size) : (P8 a x0 x1 x2 x3 x4 x5 x6 x7).eval (.tmp 101) = x2 := by
  have h1 : 101 < a.tmps.size := by omega
  simp [P8, Act.put, Act.eval, Array.getElem_setIfInBounds, h1]
theorem P8_g4 (a : Act) (x0 x1 x2 x3 x4 x5 x6 x7 : Value) (h : 106 < a.tmps.size) : (P8 a x0 x1 x2 x3 x4 x5 x6 x7).eval (.tmp 103) = x4 := by
  have h1 : 103 < a.tmps.size := by omega
  simp [P8, Act.put, Act.eval, Array.getElem_setIfInBounds, h1]
theorem P8_g6 (a : Act) (x0 x1 x2 x3 x4 x5 x6 x7 : Value) (h : 106 < a.tmps.size) : (P8 a x0 x1 x2 x3 x4 x5 x6 x7).eval (.tmp 105) = x6 := by
  have h1 : 105 < a.tmps.size := by omega
  simp [P8, Act.put, Act.eval, Array.getElem_setIfInBounds, h1]
theorem erase_not {i j : Nat} {l : List Nat} (h : j ∉ l.erase i) (n : j ≠ i) : j ∉ l := fun hm => h ((List.mem_erase_of_ne n).2 hm)
/-- A row of bytes of its own. -/
def Built (W : World) (v : Value) (l : List Int) : Prop := ∃ b, v = .slice (some ⟨b, 0, none⟩) l.length l.length ∧ Blk W b (bytesA l) 5
theorem built_new (W : World) (l : List Int) : Built (W.alloc (.cells (bytesA l) 5)) (.slice (some ⟨W.heap.size, 0, none⟩) l.length l.length) l := ⟨_, rfl, Blk.new W _ _⟩
theorem Built.alloc {W : World} {v : Value} {l : List Int} (h : Built W v l) (o : Obj) : Built (W.alloc o) v l := by
  obtain ⟨b, hv, hb⟩ := h
  exact ⟨b, hv, hb.alloc o⟩
theorem eqPlain (d : Nat) (w : World) : (Op.equalIn (d + 3) 46 (.agg (intsA plainL)) (.agg (intsA plainL))).run Try.prog w = .ok true w :=
  (eqA46 d w 300 300 1 1 0 0 20 20 2 2 1 1 0 0 10 10 1 1 1 1 0 0 5 5 0 0 0 0 2 2).trans (by rfl)
def l4 : List SF := [⟨1, [2]⟩, ⟨2, [5]⟩, ⟨3, [1]⟩, ⟨4, [1, 44]⟩]
theorem same_l4 (A : Option Addr) (b c : Nat) (W : World) (h1 : Kd.C k40 W A 4 l4) (h2 : Kd.C k40 W (some ⟨b, 0, none⟩) 4 l4) (hc : 4 ≤ c) :
    Calls Try.prog 23 #[.slice A 4 c, .slice (some ⟨b, 0, none⟩) 4 4] W fun e w' => e = .returned (.bool true) ∧ Drawn0 W w' :=
  gatelineref17_Same.calls 30 A c l4 (some ⟨b, 0, none⟩) 4 l4 true W h1 hc h2 (Nat.le_refl _) (by kernel_rfl)
set_option maxRecDepth 100000 in
set_option maxHeartbeats 40000000 in
theorem told_tail (cc : Code) (hcc : t15 Try.f32 = some cc) (w w1 w40 : World) (n1 n4 N c : Nat) (A : Option Addr) (B1 : Aside0 (Below w.heap.size w w1)) (HN1 : Aside0 (n1 = w1.heap.size)) (hcA : Aside0 (9 ≤ c)) (HTZ : Aside0 (TS n1 n4 N A 4 w1 w40)) (K0 : Act → World → Prop) (hK0 : ∀ a w', Code.ret.wp Try.prog (bodyPost Try.prog Try.f32 fun e w' => e = .returned (.bool true) ∧ Below w.heap.size w w') a w' → K0 a w') (u6 u8 u10 u12 u14 u16 u18 u22 u24 u25 u26 u27 u28 u29 u30 u31 u32 u33 u34 u35 u36 u37 u38 u39 u40 u41 u42 u43 u44 u45 u46 u47 u48 u49 u50 u51 u52 u53 u54 u55 u56 u57 u58 u59 u60 u61 u62 u63 u64 u65 u66 u67 u68 u69 u70 u71 u72 u73 u74 u75 u76 u77 u78 u79 u80 u81 u82 u83 u84 u85 u86 u87 u88 u89 u90 u91 u92 u93 u94 u95 u96 u97 u98 u99 u100 u101 u102 u103 u104 u105 u106 u107 u108 u109 u110 u111 u112 u113 u114 u115 u116 u117 u118 u119 u120 u121 u122 u123 u124 u125 u126 u127 u128 u129 u130 u131 u132 u133 u134 u135 u136 u137 u138 u139 u140 u141 u142 u143 u144 u145 u146 u147 u148 u149 u150 u151 u152 u153 u154 u155 u156 u157 u158 : Value) :
    cc.wp Try.prog (Exit.then K0 (bodyPost Try.prog Try.f32 fun e w' => e = .returned (.bool true) ∧ Below w.heap.size w w')) { tmps := #[.bool false, .pointer (some ⟨n1, 0, none⟩), .slice A 9 c, .int .i64 0, .pointer (some ⟨n4, 0, none⟩), .int .i64 0, u6, .int .i64 18, u8, .int .i64 1, u10, .int .i64 16, u12, .int .i64 15, u14, .int .i64 14, u16, .int .i64 12, u18, .int .i64 9, .int .i64 3, .bool true, u22, .bool false, u24, u25, u26, u27, u28, u29, u30, u31, u32, u33, u34, u35, u36, u37, u38, u39, u40, u41, u42, u43, u44, u45, u46, u47, u48, u49, u50, u51, u52, u53, u54, u55, u56, u57, u58, u59, u60, u61, u62, u63, u64, u65, u66, u67, u68, u69, u70, u71, u72, u73, u74, u75, u76, u77, u78, u79, u80, u81, u82, u83, u84, u85, u86, u87, u88, u89, u90, u91, u92, u93, u94, u95, u96, u97, u98, u99, u100, u101, u102, u103, u104, u105, u106, u107, u108, u109, u110, u111, u112, u113, u114, u115, u116, u117, u118, u119, u120, u121, u122, u123, u124, u125, u126, u127, u128, u129, u130, u131, u132, u133, u134, u135, u136, u137, u138, u139, u140, u141, u142, u143, u144, u145, u146, u147, u148, u149, u150, u151, u152, u153, u154, u155, u156, u157, u158], defers := [] } w40 := by
  obtain rfl := Option.some.inj ((rfl : t15 Try.f32 = some _).symm.trans hcc)
  clear hcc
  have hl4 : ∀ W : World, (Instr.slice 22 (.slice A 9 c) none (some (.int .i64 4)) none).run Try.prog W = .ok (.slice A 4 c) W := by
    obtain ⟨i8, hi8⟩ : ∃ i, Try.prog.info? 40 = some i := by obtain ⟨i, h1, _⟩ := info_parts info40; exact ⟨i, h1⟩
    exact cut_to (P := Try.prog) 22 40 .i64 Try.underlying22 hi8 A 9 c 4 (by decide) (by decide) hcA.out
  have heq := fun d W => eqPlain d W
  simp only [List.append_eq, List.cons_append, List.nil_append]
  refine wp_region_held_drew (S := fun W' => TS n1 n4 N A 4 w1 W') (by kernel_rfl) HTZ.out.drew (fun S0 => ?_)
  generalize w40.drew = x0 at *
  refine wpAnyH_take (i := 0) (v := .int .i64 0) rfl (by kernel_rfl) (by kernel_rfl) (by kernel_rfl) (fun _ _ _ h => h) (Or.inl ⟨by kernel_rfl, ?_⟩) S0 ?_
  · intro w hSw; go_simp
    try rfl
  try simp only [Act.put, List.getElem_toArray, List.getElem_cons_zero, List.getElem_cons_succ, List.setIfInBounds_toArray, List.set_cons_zero, List.set_cons_succ]
  refine wpAnyH_take (i := 1) (v := .bool true) rfl (by kernel_rfl) (by kernel_rfl) (by kernel_rfl) (fun _ _ _ h => h) (Or.inl ⟨by kernel_rfl, ?_⟩) S0 ?_
  · intro w hSw; go_simp
    try rfl
  try simp only [Act.put, List.getElem_toArray, List.getElem_cons_zero, List.getElem_cons_succ, List.setIfInBounds_toArray, List.set_cons_zero, List.set_cons_succ]
  refine wpAnyH_take (i := 2) (v := .bool true) rfl (by kernel_rfl) (by kernel_rfl) (by kernel_rfl) (fun _ _ _ h => h) (Or.inl ⟨by kernel_rfl, ?_⟩) S0 ?_
  · intro w hSw; go_simp
    try rfl
  try simp only [Act.put, List.getElem_toArray, List.getElem_cons_zero, List.getElem_cons_succ, List.setIfInBounds_toArray, List.set_cons_zero, List.set_cons_succ]
  refine wpAnyH_take (i := 3) (v := .slice A 9 c) rfl (by kernel_rfl) (by kernel_rfl) (by kernel_rfl) (fun _ _ _ h => h) (Or.inl ⟨by kernel_rfl, ?_⟩) S0 ?_
  · intro w hSw; go_simp
    try rfl
  try simp only [Act.put, List.getElem_toArray, List.getElem_cons_zero, List.getElem_cons_succ, List.setIfInBounds_toArray, List.set_cons_zero, List.set_cons_succ]
  refine wpAnyH_take (i := 4) (v := .int .i64 9) rfl (by kernel_rfl) (by kernel_rfl) (by kernel_rfl) (fun _ _ _ h => h) (Or.inl ⟨by kernel_rfl, ?_⟩) S0 ?_
  · intro w hSw; go_simp
    try rfl
  try simp only [Act.put, List.getElem_toArray, List.getElem_cons_zero, List.getElem_cons_succ, List.setIfInBounds_toArray, List.set_cons_zero, List.set_cons_succ]
  refine wpAnyH_take (i := 5) (v := .bool true) rfl (by kernel_rfl) (by kernel_rfl) (by kernel_rfl) (fun _ _ _ h => h) (Or.inl ⟨by kernel_rfl, ?_⟩) S0 ?_
  · intro w hSw; go_simp
    try rfl
  try simp only [Act.put, List.getElem_toArray, List.getElem_cons_zero, List.getElem_cons_succ, List.setIfInBounds_toArray, List.set_cons_zero, List.set_cons_succ]
  refine wpAnyH_take (i := 6) (v := .bool true) rfl (by kernel_rfl) (by kernel_rfl) (by kernel_rfl) (fun _ _ _ h => h) (Or.inl ⟨by kernel_rfl, ?_⟩) S0 ?_
  · intro w hSw; go_simp
    try rfl
  try simp only [Act.put, List.getElem_toArray, List.getElem_cons_zero, List.getElem_cons_succ, List.setIfInBounds_toArray, List.set_cons_zero, List.set_cons_succ]
  refine wpAnyH_take (i := 7) (v := .bool true) rfl (by kernel_rfl) (by kernel_rfl) (by kernel_rfl) (fun _ _ _ h => h) (Or.inl ⟨by kernel_rfl, ?_⟩) S0 ?_
  · intro w hSw; go_simp
    try rfl
  try simp only [Act.put, List.getElem_toArray, List.getElem_cons_zero, List.getElem_cons_succ, List.setIfInBounds_toArray, List.set_cons_zero, List.set_cons_succ]
  refine wpAnyH_take (i := 8) (v := .slice A 9 c) rfl (by kernel_rfl) (by kernel_rfl) (by kernel_rfl) (fun _ _ _ h => h) (Or.inl ⟨by kernel_rfl, ?_⟩) S0 ?_
  · intro w hSw; go_simp
    try rfl
  try simp only [Act.put, List.getElem_toArray, List.getElem_cons_zero, List.getElem_cons_succ, List.setIfInBounds_toArray, List.set_cons_zero, List.set_cons_succ]
  refine wpAnyH_take (i := 9) (v := .slice A 4 c) rfl (by kernel_rfl) (by kernel_rfl) (by kernel_rfl) (fun _ _ _ h => h) (Or.inl ⟨by kernel_rfl, ?_⟩) S0 ?_
  · intro w hSw; go_simp
    try rfl
  try simp only [Act.put, List.getElem_toArray, List.getElem_cons_zero, List.getElem_cons_succ, List.setIfInBounds_toArray, List.set_cons_zero, List.set_cons_succ]
  generalize hA : Act.mk _ _ = a0
  have hsz : a0.tmps.size = 159 := by rw [← hA]; rfl
  refine any_order (fuel := 53) (fin := #[true, true, true, true, true, true, true, true, true, true, true, true, true, true, true, true, true, true, false, false, false, false, false, false, false, false, false, false, false, false, false, false, false, false, false, false, false, false, false, false, false, false, false, false, false, false, false, false, false, false, false, false, false, false, false, false, false, false, false, false, false, false, false, false, false, false, false, false, false, false, false]) T15 (fun rem a W => rem ⊆ [10, 12, 14, 16] ∧ ∃ x0 x1 x2 x3 x4 x5 x6 x7 : Value, a = P8 a0 x0 x1 x2 x3 x4 x5 x6 x7 ∧ (10 ∉ rem → Built W x0 [2] ∧ x1 = .agg #[.int .i64 1, x0]) ∧ (12 ∉ rem → Built W x2 [5] ∧ x3 = .agg #[.int .i64 2, x2]) ∧ (14 ∉ rem → Built W x4 [1] ∧ x5 = .agg #[.int .i64 3, x4]) ∧ (16 ∉ rem → Built W x6 [1, 44] ∧ x7 = .agg #[.int .i64 4, x6])) (by kernel_rfl) (fun _ _ d _ _ h => by cases d <;> exact h) t15_nil (by exact t15_ok) ?_ ?_ 4 _ [10, 12, 14, 16] _ _ rfl T15.c_10_12_14_16 ⟨List.Subset.refl _, u99, u100, u101, u102, u103, u104, u105, u106, by rw [← hA]; kernel_rfl, fun h => absurd (by decide) h, fun h => absurd (by decide) h, fun h => absurd (by decide) h, fun h => absurd (by decide) h⟩ S0
  · clear S0
    rintro _ W ⟨_, x0, x1, x2, x3, x4, x5, x6, x7, rfl, B10, B12, B14, B16⟩ S0
    obtain ⟨⟨b10, rfl, U10⟩, rfl⟩ := B10 (by decide)
    obtain ⟨⟨b12, rfl, U12⟩, rfl⟩ := B12 (by decide)
    obtain ⟨⟨b14, rfl, U14⟩, rfl⟩ := B14 (by decide)
    obtain ⟨⟨b16, rfl, U16⟩, rfl⟩ := B16 (by decide)
    clear B10 B12 B14 B16 hsz
    subst hA
    unfold P8
    try simp only [Act.put, List.getElem_toArray, List.getElem_cons_zero, List.getElem_cons_succ, List.setIfInBounds_toArray, List.set_cons_zero, List.set_cons_succ]
    refine wpAnyH_ready (rs := [18]) (by kernel_rfl) (by simp) ?_
    refine AllReadyH.cons rfl (fun K hK => ?_) AllReadyH.nil
    rw [if_pos (show _ = true by kernel_rfl)]
    go_simp
    have hC := C_four (l0 := [2]) (l1 := [5]) (l2 := [1]) (l3 := [1, 44]) (Blk.new W _ 40) (C_bytes (U10.alloc (.cells #[.int .i64 1, .slice (some ⟨b10, 0, none⟩) 1 1, .int .i64 2, .slice (some ⟨b12, 0, none⟩) 1 1, .int .i64 3, .slice (some ⟨b14, 0, none⟩) 1 1, .int .i64 4, .slice (some ⟨b16, 0, none⟩) 2 2] 40)) (by decide)) (Nat.le_refl _) (C_bytes (U12.alloc (.cells #[.int .i64 1, .slice (some ⟨b10, 0, none⟩) 1 1, .int .i64 2, .slice (some ⟨b12, 0, none⟩) 1 1, .int .i64 3, .slice (some ⟨b14, 0, none⟩) 1 1, .int .i64 4, .slice (some ⟨b16, 0, none⟩) 2 2] 40)) (by decide)) (Nat.le_refl _) (C_bytes (U14.alloc (.cells #[.int .i64 1, .slice (some ⟨b10, 0, none⟩) 1 1, .int .i64 2, .slice (some ⟨b12, 0, none⟩) 1 1, .int .i64 3, .slice (some ⟨b14, 0, none⟩) 1 1, .int .i64 4, .slice (some ⟨b16, 0, none⟩) 2 2] 40)) (by decide)) (Nat.le_refl _) (C_bytes (U16.alloc (.cells #[.int .i64 1, .slice (some ⟨b10, 0, none⟩) 1 1, .int .i64 2, .slice (some ⟨b12, 0, none⟩) 1 1, .int .i64 3, .slice (some ⟨b14, 0, none⟩) 1 1, .int .i64 4, .slice (some ⟨b16, 0, none⟩) 2 2] 40)) (by decide)) (Nat.le_refl _)
    replace S0 := S0.alloc (.cells #[.int .i64 1, .slice (some ⟨b10, 0, none⟩) 1 1, .int .i64 2, .slice (some ⟨b12, 0, none⟩) 1 1, .int .i64 3, .slice (some ⟨b14, 0, none⟩) 1 1, .int .i64 4, .slice (some ⟨b16, 0, none⟩) 2 2] 40)
    have hA : Kd.C k40 (W.alloc (.cells #[.int .i64 1, .slice (some ⟨b10, 0, none⟩) 1 1, .int .i64 2, .slice (some ⟨b12, 0, none⟩) 1 1, .int .i64 3, .slice (some ⟨b14, 0, none⟩) 1 1, .int .i64 4, .slice (some ⟨b16, 0, none⟩) 2 2] 40)) A 4 l4 := Kd.C_take (m := 4) (Kd.F_now S0.hl) (by decide)
    refine hK.out _ _ S0 (fun _ => ?_)
    clear hK K
    try simp only [Act.put, List.getElem_toArray, List.getElem_cons_zero, List.getElem_cons_succ, List.setIfInBounds_toArray, List.set_cons_zero, List.set_cons_succ]
    refine wpAnyH_ready (rs := [19]) (by kernel_rfl) (by simp) ?_
    refine AllReadyH.cons rfl (fun K hK => ?_) AllReadyH.nil
    rw [if_pos (show _ = true by kernel_rfl)]
    go_simp
    go_at_call 23
    refine (same_l4 A _ c _ hA hC (by have := hcA.out; omega)).mono ?_
    rintro e w41 ⟨rfl, nd3, rfl⟩
    replace S0 := S0.drewN nd3
    go_wp2_with fail
    refine hK.out _ _ S0 (fun _ => ?_)
    clear hK K
    try simp only [Act.put, List.getElem_toArray, List.getElem_cons_zero, List.getElem_cons_succ, List.setIfInBounds_toArray, List.set_cons_zero, List.set_cons_succ]
    refine wpAnyH_take (i := 20) (v := .bool true) rfl (by kernel_rfl) (by kernel_rfl) (by kernel_rfl) (fun _ _ _ h => h) (Or.inl ⟨by kernel_rfl, ?_⟩) S0 ?_
    · intro w hSw; go_simp
      try rfl
    try simp only [Act.put, List.getElem_toArray, List.getElem_cons_zero, List.getElem_cons_succ, List.setIfInBounds_toArray, List.set_cons_zero, List.set_cons_succ]
    refine wpAnyH_take (i := 21) (v := .bool true) rfl (by kernel_rfl) (by kernel_rfl) (by kernel_rfl) (fun _ _ _ h => h) (Or.inl ⟨by kernel_rfl, ?_⟩) S0 ?_
    · intro w hSw; go_simp
      try rfl
    try simp only [Act.put, List.getElem_toArray, List.getElem_cons_zero, List.getElem_cons_succ, List.setIfInBounds_toArray, List.set_cons_zero, List.set_cons_succ]
    refine wpAnyH_take (i := 22) (v := .int .i64 0) rfl (by kernel_rfl) (by kernel_rfl) (by kernel_rfl) (fun _ _ _ h => h) (Or.inl ⟨by kernel_rfl, ?_⟩) S0 ?_
    · intro w hSw; go_simp
      try rfl
    try simp only [Act.put, List.getElem_toArray, List.getElem_cons_zero, List.getElem_cons_succ, List.setIfInBounds_toArray, List.set_cons_zero, List.set_cons_succ]
    refine wpAnyH_take (i := 23) (v := .int .i64 0) rfl (by kernel_rfl) (by kernel_rfl) (by kernel_rfl) (fun _ _ _ h => h) (Or.inl ⟨by kernel_rfl, ?_⟩) S0 ?_
    · intro w hSw; go_simp
      try rfl
    try simp only [Act.put, List.getElem_toArray, List.getElem_cons_zero, List.getElem_cons_succ, List.setIfInBounds_toArray, List.set_cons_zero, List.set_cons_succ]
    refine wpAnyH_take (i := 24) (v := .bool true) rfl (by kernel_rfl) (by kernel_rfl) (by kernel_rfl) (fun _ _ _ h => h) (Or.inl ⟨by kernel_rfl, ?_⟩) S0 ?_
    · intro w hSw; go_simp
      try rfl
    try simp only [Act.put, List.getElem_toArray, List.getElem_cons_zero, List.getElem_cons_succ, List.setIfInBounds_toArray, List.set_cons_zero, List.set_cons_succ]
    refine wpAnyH_take (i := 25) (v := .bool true) rfl (by kernel_rfl) (by kernel_rfl) (by kernel_rfl) (fun _ _ _ h => h) (Or.inl ⟨by kernel_rfl, ?_⟩) S0 ?_
    · intro w hSw; go_simp
      try rfl
    try simp only [Act.put, List.getElem_toArray, List.getElem_cons_zero, List.getElem_cons_succ, List.setIfInBounds_toArray, List.set_cons_zero, List.set_cons_succ]
    refine wpAnyH_take (i := 26) (v := .bool true) rfl (by kernel_rfl) (by kernel_rfl) (by kernel_rfl) (fun _ _ _ h => h) (Or.inl ⟨by kernel_rfl, ?_⟩) S0 ?_
    · intro w hSw; go_simp
      try rfl
    try simp only [Act.put, List.getElem_toArray, List.getElem_cons_zero, List.getElem_cons_succ, List.setIfInBounds_toArray, List.set_cons_zero, List.set_cons_succ]
    refine wpAnyH_take (i := 27) (v := .agg (intsA plainL)) rfl (by kernel_rfl) (by kernel_rfl) (by kernel_rfl) (fun _ _ _ h => h) (yieldsIf_load_mid (by kernel_rfl) 46 _ rfl n4 0 rfl (plainL.map (Value.int .i64)) _ (fun w s j u hu => by rw [Nat.zero_add]; exact s.h4.cell j u (by simpa [intsA] using hu)) Try.underlying46 rfl (by kernel_rfl)) S0 ?_
    try simp only [Act.put, List.getElem_toArray, List.getElem_cons_zero, List.getElem_cons_succ, List.setIfInBounds_toArray, List.set_cons_zero, List.set_cons_succ]
    refine wpAnyH_ready (rs := [28]) (by kernel_rfl) (by simp) ?_
    refine AllReadyH.cons rfl (fun K hK => ?_) AllReadyH.nil
    rw [if_pos (show _ = true by kernel_rfl)]
    go_simp
    go_at_call 43
    refine (plain_any _).mono ?_
    rintro e w42 ⟨rfl, hb⟩
    replace S0 := S0.below hb
    go_wp2_with fail
    refine hK.out _ _ S0 (fun _ => ?_)
    clear hK K
    try simp only [Act.put, List.getElem_toArray, List.getElem_cons_zero, List.getElem_cons_succ, List.setIfInBounds_toArray, List.set_cons_zero, List.set_cons_succ]
    refine wpAnyH_take (i := 29) (v := .bool true) rfl (by kernel_rfl) (by kernel_rfl) (by kernel_rfl) (fun _ _ _ h => h) (Or.inl ⟨by kernel_rfl, ?_⟩) S0 ?_
    · intro w hSw; go_simp
      try rfl
    try simp only [Act.put, List.getElem_toArray, List.getElem_cons_zero, List.getElem_cons_succ, List.setIfInBounds_toArray, List.set_cons_zero, List.set_cons_succ]
    refine wpAnyH_take (i := 30) (v := .bool true) rfl (by kernel_rfl) (by kernel_rfl) (by kernel_rfl) (fun _ _ _ h => h) (Or.inl ⟨by kernel_rfl, ?_⟩) S0 ?_
    · intro w hSw; go_simp
      try rfl
    try simp only [Act.put, List.getElem_toArray, List.getElem_cons_zero, List.getElem_cons_succ, List.setIfInBounds_toArray, List.set_cons_zero, List.set_cons_succ]
    refine wpAnyH_take (i := 31) (v := .bool true) rfl (by kernel_rfl) (by kernel_rfl) (by kernel_rfl) (fun _ _ _ h => h) (Or.inl ⟨by kernel_rfl, ?_⟩) S0 ?_
    · intro w hSw; go_simp
      try rfl
    try simp only [Act.put, List.getElem_toArray, List.getElem_cons_zero, List.getElem_cons_succ, List.setIfInBounds_toArray, List.set_cons_zero, List.set_cons_succ]
    refine wpAnyH_take (i := 32) (v := .int .i64 18) rfl (by kernel_rfl) (by kernel_rfl) (by kernel_rfl) (fun _ _ _ h => h) (Or.inl ⟨by kernel_rfl, ?_⟩) S0 ?_
    · intro w hSw; go_simp
      try rfl
    try simp only [Act.put, List.getElem_toArray, List.getElem_cons_zero, List.getElem_cons_succ, List.setIfInBounds_toArray, List.set_cons_zero, List.set_cons_succ]
    refine wpAnyH_take (i := 33) (v := .bool true) rfl (by kernel_rfl) (by kernel_rfl) (by kernel_rfl) (fun _ _ _ h => h) (Or.inl ⟨by kernel_rfl, ?_⟩) S0 ?_
    · intro w hSw; go_simp
      try rfl
    try simp only [Act.put, List.getElem_toArray, List.getElem_cons_zero, List.getElem_cons_succ, List.setIfInBounds_toArray, List.set_cons_zero, List.set_cons_succ]
    refine wpAnyH_take (i := 34) (v := .bool true) rfl (by kernel_rfl) (by kernel_rfl) (by kernel_rfl) (fun _ _ _ h => h) (Or.inl ⟨by kernel_rfl, ?_⟩) S0 ?_
    · intro w hSw; go_simp
      try rfl
    try simp only [Act.put, List.getElem_toArray, List.getElem_cons_zero, List.getElem_cons_succ, List.setIfInBounds_toArray, List.set_cons_zero, List.set_cons_succ]
    refine wpAnyH_take (i := 35) (v := .bool true) rfl (by kernel_rfl) (by kernel_rfl) (by kernel_rfl) (fun _ _ _ h => h) (Or.inl ⟨by kernel_rfl, ?_⟩) S0 ?_
    · intro w hSw; go_simp
      try rfl
    try simp only [Act.put, List.getElem_toArray, List.getElem_cons_zero, List.getElem_cons_succ, List.setIfInBounds_toArray, List.set_cons_zero, List.set_cons_succ]
    refine wpAnyH_take (i := 36) (v := .int .i64 1) rfl (by kernel_rfl) (by kernel_rfl) (by kernel_rfl) (fun _ _ _ h => h) (Or.inl ⟨by kernel_rfl, ?_⟩) S0 ?_
    · intro w hSw; go_simp
      try rfl
    try simp only [Act.put, List.getElem_toArray, List.getElem_cons_zero, List.getElem_cons_succ, List.setIfInBounds_toArray, List.set_cons_zero, List.set_cons_succ]
    refine wpAnyH_take (i := 37) (v := .bool true) rfl (by kernel_rfl) (by kernel_rfl) (by kernel_rfl) (fun _ _ _ h => h) (Or.inl ⟨by kernel_rfl, ?_⟩) S0 ?_
    · intro w hSw; go_simp
      try rfl
    try simp only [Act.put, List.getElem_toArray, List.getElem_cons_zero, List.getElem_cons_succ, List.setIfInBounds_toArray, List.set_cons_zero, List.set_cons_succ]
    refine wpAnyH_take (i := 38) (v := .bool true) rfl (by kernel_rfl) (by kernel_rfl) (by kernel_rfl) (fun _ _ _ h => h) (Or.inl ⟨by kernel_rfl, ?_⟩) S0 ?_
    · intro w hSw; go_simp
      try rfl
    try simp only [Act.put, List.getElem_toArray, List.getElem_cons_zero, List.getElem_cons_succ, List.setIfInBounds_toArray, List.set_cons_zero, List.set_cons_succ]
    refine wpAnyH_take (i := 39) (v := .bool true) rfl (by kernel_rfl) (by kernel_rfl) (by kernel_rfl) (fun _ _ _ h => h) (Or.inl ⟨by kernel_rfl, ?_⟩) S0 ?_
    · intro w hSw; go_simp
      try rfl
    try simp only [Act.put, List.getElem_toArray, List.getElem_cons_zero, List.getElem_cons_succ, List.setIfInBounds_toArray, List.set_cons_zero, List.set_cons_succ]
    refine wpAnyH_take (i := 40) (v := .int .i64 16) rfl (by kernel_rfl) (by kernel_rfl) (by kernel_rfl) (fun _ _ _ h => h) (Or.inl ⟨by kernel_rfl, ?_⟩) S0 ?_
    · intro w hSw; go_simp
      try rfl
    try simp only [Act.put, List.getElem_toArray, List.getElem_cons_zero, List.getElem_cons_succ, List.setIfInBounds_toArray, List.set_cons_zero, List.set_cons_succ]
    refine wpAnyH_take (i := 41) (v := .bool true) rfl (by kernel_rfl) (by kernel_rfl) (by kernel_rfl) (fun _ _ _ h => h) (Or.inl ⟨by kernel_rfl, ?_⟩) S0 ?_
    · intro w hSw; go_simp
      try rfl
    try simp only [Act.put, List.getElem_toArray, List.getElem_cons_zero, List.getElem_cons_succ, List.setIfInBounds_toArray, List.set_cons_zero, List.set_cons_succ]
    refine wpAnyH_take (i := 42) (v := .bool true) rfl (by kernel_rfl) (by kernel_rfl) (by kernel_rfl) (fun _ _ _ h => h) (Or.inl ⟨by kernel_rfl, ?_⟩) S0 ?_
    · intro w hSw; go_simp
      try rfl
    try simp only [Act.put, List.getElem_toArray, List.getElem_cons_zero, List.getElem_cons_succ, List.setIfInBounds_toArray, List.set_cons_zero, List.set_cons_succ]
    refine wpAnyH_take (i := 43) (v := .bool true) rfl (by kernel_rfl) (by kernel_rfl) (by kernel_rfl) (fun _ _ _ h => h) (Or.inl ⟨by kernel_rfl, ?_⟩) S0 ?_
    · intro w hSw; go_simp
      try rfl
    try simp only [Act.put, List.getElem_toArray, List.getElem_cons_zero, List.getElem_cons_succ, List.setIfInBounds_toArray, List.set_cons_zero, List.set_cons_succ]
    refine wpAnyH_take (i := 44) (v := .int .i64 15) rfl (by kernel_rfl) (by kernel_rfl) (by kernel_rfl) (fun _ _ _ h => h) (Or.inl ⟨by kernel_rfl, ?_⟩) S0 ?_
    · intro w hSw; go_simp
      try rfl
    try simp only [Act.put, List.getElem_toArray, List.getElem_cons_zero, List.getElem_cons_succ, List.setIfInBounds_toArray, List.set_cons_zero, List.set_cons_succ]
    refine wpAnyH_take (i := 45) (v := .bool true) rfl (by kernel_rfl) (by kernel_rfl) (by kernel_rfl) (fun _ _ _ h => h) (Or.inl ⟨by kernel_rfl, ?_⟩) S0 ?_
    · intro w hSw; go_simp
      try rfl
    try simp only [Act.put, List.getElem_toArray, List.getElem_cons_zero, List.getElem_cons_succ, List.setIfInBounds_toArray, List.set_cons_zero, List.set_cons_succ]
    refine wpAnyH_take (i := 46) (v := .bool true) rfl (by kernel_rfl) (by kernel_rfl) (by kernel_rfl) (fun _ _ _ h => h) (Or.inl ⟨by kernel_rfl, ?_⟩) S0 ?_
    · intro w hSw; go_simp
      try rfl
    try simp only [Act.put, List.getElem_toArray, List.getElem_cons_zero, List.getElem_cons_succ, List.setIfInBounds_toArray, List.set_cons_zero, List.set_cons_succ]
    refine wpAnyH_take (i := 47) (v := .bool true) rfl (by kernel_rfl) (by kernel_rfl) (by kernel_rfl) (fun _ _ _ h => h) (Or.inl ⟨by kernel_rfl, ?_⟩) S0 ?_
    · intro w hSw; go_simp
      try rfl
    try simp only [Act.put, List.getElem_toArray, List.getElem_cons_zero, List.getElem_cons_succ, List.setIfInBounds_toArray, List.set_cons_zero, List.set_cons_succ]
    refine wpAnyH_take (i := 48) (v := .int .i64 14) rfl (by kernel_rfl) (by kernel_rfl) (by kernel_rfl) (fun _ _ _ h => h) (Or.inl ⟨by kernel_rfl, ?_⟩) S0 ?_
    · intro w hSw; go_simp
      try rfl
    try simp only [Act.put, List.getElem_toArray, List.getElem_cons_zero, List.getElem_cons_succ, List.setIfInBounds_toArray, List.set_cons_zero, List.set_cons_succ]
    refine wpAnyH_take (i := 49) (v := .bool true) rfl (by kernel_rfl) (by kernel_rfl) (by kernel_rfl) (fun _ _ _ h => h) (Or.inl ⟨by kernel_rfl, ?_⟩) S0 ?_
    · intro w hSw; go_simp
      try rfl
    try simp only [Act.put, List.getElem_toArray, List.getElem_cons_zero, List.getElem_cons_succ, List.setIfInBounds_toArray, List.set_cons_zero, List.set_cons_succ]
    refine wpAnyH_take (i := 50) (v := .bool true) rfl (by kernel_rfl) (by kernel_rfl) (by kernel_rfl) (fun _ _ _ h => h) (Or.inl ⟨by kernel_rfl, ?_⟩) S0 ?_
    · intro w hSw; go_simp
      try rfl
    try simp only [Act.put, List.getElem_toArray, List.getElem_cons_zero, List.getElem_cons_succ, List.setIfInBounds_toArray, List.set_cons_zero, List.set_cons_succ]
    refine wpAnyH_take (i := 51) (v := .bool true) rfl (by kernel_rfl) (by kernel_rfl) (by kernel_rfl) (fun _ _ _ h => h) (Or.inl ⟨by kernel_rfl, ?_⟩) S0 ?_
    · intro w hSw; go_simp
      try rfl
    try simp only [Act.put, List.getElem_toArray, List.getElem_cons_zero, List.getElem_cons_succ, List.setIfInBounds_toArray, List.set_cons_zero, List.set_cons_succ]
    refine wpAnyH_take (i := 52) (v := .int .i64 12) rfl (by kernel_rfl) (by kernel_rfl) (by kernel_rfl) (fun _ _ _ h => h) (Or.inl ⟨by kernel_rfl, ?_⟩) S0 ?_
    · intro w hSw; go_simp
      try rfl
    try simp only [Act.put, List.getElem_toArray, List.getElem_cons_zero, List.getElem_cons_succ, List.setIfInBounds_toArray, List.set_cons_zero, List.set_cons_succ]
    refine wpAnyH_take (i := 53) (v := .bool true) rfl (by kernel_rfl) (by kernel_rfl) (by kernel_rfl) (fun _ _ _ h => h) (Or.inl ⟨by kernel_rfl, ?_⟩) S0 ?_
    · intro w hSw; go_simp
      try rfl
    try simp only [Act.put, List.getElem_toArray, List.getElem_cons_zero, List.getElem_cons_succ, List.setIfInBounds_toArray, List.set_cons_zero, List.set_cons_succ]
    refine wpAnyH_take (i := 54) (v := .bool true) rfl (by kernel_rfl) (by kernel_rfl) (by kernel_rfl) (fun _ _ _ h => h) (Or.inl ⟨by kernel_rfl, ?_⟩) S0 ?_
    · intro w hSw; go_simp
      try rfl
    try simp only [Act.put, List.getElem_toArray, List.getElem_cons_zero, List.getElem_cons_succ, List.setIfInBounds_toArray, List.set_cons_zero, List.set_cons_succ]
    refine wpAnyH_take (i := 55) (v := .bool true) rfl (by kernel_rfl) (by kernel_rfl) (by kernel_rfl) (fun _ _ _ h => h) (Or.inl ⟨by kernel_rfl, ?_⟩) S0 ?_
    · intro w hSw; go_simp
      try rfl
    try simp only [Act.put, List.getElem_toArray, List.getElem_cons_zero, List.getElem_cons_succ, List.setIfInBounds_toArray, List.set_cons_zero, List.set_cons_succ]
    refine wpAnyH_take (i := 56) (v := .int .i64 9) rfl (by kernel_rfl) (by kernel_rfl) (by kernel_rfl) (fun _ _ _ h => h) (Or.inl ⟨by kernel_rfl, ?_⟩) S0 ?_
    · intro w hSw; go_simp
      try rfl
    try simp only [Act.put, List.getElem_toArray, List.getElem_cons_zero, List.getElem_cons_succ, List.setIfInBounds_toArray, List.set_cons_zero, List.set_cons_succ]
    refine wpAnyH_take (i := 57) (v := .bool true) rfl (by kernel_rfl) (by kernel_rfl) (by kernel_rfl) (fun _ _ _ h => h) (Or.inl ⟨by kernel_rfl, ?_⟩) S0 ?_
    · intro w hSw; go_simp
      try rfl
    try simp only [Act.put, List.getElem_toArray, List.getElem_cons_zero, List.getElem_cons_succ, List.setIfInBounds_toArray, List.set_cons_zero, List.set_cons_succ]
    refine wpAnyH_take (i := 58) (v := .bool true) rfl (by kernel_rfl) (by kernel_rfl) (by kernel_rfl) (fun _ _ _ h => h) (Or.inl ⟨by kernel_rfl, ?_⟩) S0 ?_
    · intro w hSw; go_simp
      try rfl
    try simp only [Act.put, List.getElem_toArray, List.getElem_cons_zero, List.getElem_cons_succ, List.setIfInBounds_toArray, List.set_cons_zero, List.set_cons_succ]
    refine wpAnyH_take (i := 59) (v := .bool true) rfl (by kernel_rfl) (by kernel_rfl) (by kernel_rfl) (fun _ _ _ h => h) (Or.inl ⟨by kernel_rfl, ?_⟩) S0 ?_
    · intro w hSw; go_simp
      try rfl
    try simp only [Act.put, List.getElem_toArray, List.getElem_cons_zero, List.getElem_cons_succ, List.setIfInBounds_toArray, List.set_cons_zero, List.set_cons_succ]
    refine wpAnyH_take (i := 60) (v := .int .i64 3) rfl (by kernel_rfl) (by kernel_rfl) (by kernel_rfl) (fun _ _ _ h => h) (Or.inl ⟨by kernel_rfl, ?_⟩) S0 ?_
    · intro w hSw; go_simp
      try rfl
    try simp only [Act.put, List.getElem_toArray, List.getElem_cons_zero, List.getElem_cons_succ, List.setIfInBounds_toArray, List.set_cons_zero, List.set_cons_succ]
    refine wpAnyH_take (i := 61) (v := .bool true) rfl (by kernel_rfl) (by kernel_rfl) (by kernel_rfl) (fun _ _ _ h => h) (Or.inl ⟨by kernel_rfl, ?_⟩) S0 ?_
    · intro w hSw; go_simp
      try rfl
    try simp only [Act.put, List.getElem_toArray, List.getElem_cons_zero, List.getElem_cons_succ, List.setIfInBounds_toArray, List.set_cons_zero, List.set_cons_succ]
    refine wpAnyH_take (i := 62) (v := .bool true) rfl (by kernel_rfl) (by kernel_rfl) (by kernel_rfl) (fun _ _ _ h => h) (Or.inl ⟨by kernel_rfl, ?_⟩) S0 ?_
    · intro w hSw; go_simp
      try rfl
    try simp only [Act.put, List.getElem_toArray, List.getElem_cons_zero, List.getElem_cons_succ, List.setIfInBounds_toArray, List.set_cons_zero, List.set_cons_succ]
    refine wpAnyH_take (i := 63) (v := .bool true) rfl (by kernel_rfl) (by kernel_rfl) (by kernel_rfl) (fun _ _ _ h => h) (Or.inl ⟨by kernel_rfl, ?_⟩) S0 ?_
    · intro w hSw; go_simp
      try rfl
    try simp only [Act.put, List.getElem_toArray, List.getElem_cons_zero, List.getElem_cons_succ, List.setIfInBounds_toArray, List.set_cons_zero, List.set_cons_succ]
    refine wpAnyH_take (i := 64) (v := .bool true) rfl (by kernel_rfl) (by kernel_rfl) (by kernel_rfl) (fun _ _ _ h => h) (Or.inl ⟨by kernel_rfl, ?_⟩) S0 ?_
    · intro w hSw; go_simp
      try rfl
    try simp only [Act.put, List.getElem_toArray, List.getElem_cons_zero, List.getElem_cons_succ, List.setIfInBounds_toArray, List.set_cons_zero, List.set_cons_succ]
    refine wpAnyH_take (i := 65) (v := .bool true) rfl (by kernel_rfl) (by kernel_rfl) (by kernel_rfl) (fun _ _ _ h => h) (Or.inl ⟨by kernel_rfl, ?_⟩) S0 ?_
    · intro w hSw; go_simp
      try rfl
    try simp only [Act.put, List.getElem_toArray, List.getElem_cons_zero, List.getElem_cons_succ, List.setIfInBounds_toArray, List.set_cons_zero, List.set_cons_succ]
    refine wpAnyH_take (i := 66) (v := .bool true) rfl (by kernel_rfl) (by kernel_rfl) (by kernel_rfl) (fun _ _ _ h => h) (Or.inl ⟨by kernel_rfl, ?_⟩) S0 ?_
    · intro w hSw; go_simp
      try rfl
    try simp only [Act.put, List.getElem_toArray, List.getElem_cons_zero, List.getElem_cons_succ, List.setIfInBounds_toArray, List.set_cons_zero, List.set_cons_succ]
    refine wpAnyH_take (i := 67) (v := .bool false) rfl (by kernel_rfl) (by kernel_rfl) (by kernel_rfl) (fun _ _ _ h => h) (Or.inl ⟨by kernel_rfl, ?_⟩) S0 ?_
    · intro w hSw; go_simp
      try rfl
    try simp only [Act.put, List.getElem_toArray, List.getElem_cons_zero, List.getElem_cons_succ, List.setIfInBounds_toArray, List.set_cons_zero, List.set_cons_succ]
    refine wpAnyH_take (i := 68) (v := .bool true) rfl (by kernel_rfl) (by kernel_rfl) (by kernel_rfl) (fun _ _ _ h => h) (Or.inl ⟨by kernel_rfl, ?_⟩) S0 ?_
    · intro w hSw; go_simp
      try rfl
    try simp only [Act.put, List.getElem_toArray, List.getElem_cons_zero, List.getElem_cons_succ, List.setIfInBounds_toArray, List.set_cons_zero, List.set_cons_succ]
    refine wpAnyH_take (i := 69) (v := .bool true) rfl (by kernel_rfl) (by kernel_rfl) (by kernel_rfl) (fun _ _ _ h => h) (Or.inl ⟨by kernel_rfl, ?_⟩) S0 ?_
    · intro w hSw; go_simp
      try rfl
    try simp only [Act.put, List.getElem_toArray, List.getElem_cons_zero, List.getElem_cons_succ, List.setIfInBounds_toArray, List.set_cons_zero, List.set_cons_succ]
    refine wpAnyH_take (i := 70) (v := .bool true) rfl (by kernel_rfl) (by kernel_rfl) (by kernel_rfl) (fun _ _ _ h => h) (Or.inl ⟨by kernel_rfl, ?_⟩) S0 ?_
    · intro w hSw; go_simp
      try rfl
    try simp only [Act.put, List.getElem_toArray, List.getElem_cons_zero, List.getElem_cons_succ, List.setIfInBounds_toArray, List.set_cons_zero, List.set_cons_succ]
    refine wpAnyH_done (by kernel_rfl) ?_ _
    refine hK0 _ _ ?_
    try simp only [List.append_eq, List.cons_append, List.nil_append, List.getElem_cons_zero, List.getElem_cons_succ, List.setIfInBounds_toArray, List.set_cons_zero, List.set_cons_succ]
    go_wp2
    go_ret
    exact ⟨rfl, below_step B1.out (by rw [← HN1.out]; exact S0.hb)⟩
  · clear hl4 heq S0 hA
    rintro rem i hi a W ⟨hsub, x0, x1, x2, x3, x4, x5, x6, x7, rfl, B10, B12, B14, B16⟩ S1
    have hi4 : i = 10 ∨ i = 12 ∨ i = 14 ∨ i = 16 := by simpa using hsub hi
    have hsub' : ∀ j, rem.erase j ⊆ [10, 12, 14, 16] := fun j x hx => hsub (List.mem_of_mem_erase hx)
    clear hsub hi
    rcases hi4 with rfl | rfl | rfl | rfl
    · refine ⟨_, _, rfl, rfl, fun K' hK => ?_⟩
      rw [if_pos (show _ = true by kernel_rfl)]
      go_simp
      refine hK (Act.put (P8 a0 x0 x1 x2 x3 x4 x5 x6 x7) (some 99) (.slice (some ⟨W.heap.size, 0, none⟩) 1 1)) _ (.agg #[.int .i64 1, .slice (some ⟨W.heap.size, 0, none⟩) 1 1]) ?_ ?_ (S1.alloc _)
      · exact yieldsIf_build2 (by kernel_rfl) 40 _ rfl [(0, .int .i64 1), (1, .slice (some ⟨W.heap.size, 0, none⟩) 1 1)] _ (by rw [P8_0]; simp only [List.map_toArray, List.map_cons, List.map_nil, P8_g0 _ _ _ _ _ _ _ _ _ (show 106 < a0.tmps.size by omega)]; rfl) (by kernel_rfl)
      · exact ⟨hsub' 10, .slice (some ⟨W.heap.size, 0, none⟩) 1 1, .agg #[.int .i64 1, .slice (some ⟨W.heap.size, 0, none⟩) 1 1], x2, x3, x4, x5, x6, x7, (by show Act.put (Act.put (P8 a0 x0 x1 x2 x3 x4 x5 x6 x7) (some 99) _) (some 100) _ = _; rw [P8_0, P8_1]), fun _ => ⟨built_new W [2], rfl⟩, fun h => ⟨(B12 (erase_not h (by decide))).1.alloc _, (B12 (erase_not h (by decide))).2⟩, fun h => ⟨(B14 (erase_not h (by decide))).1.alloc _, (B14 (erase_not h (by decide))).2⟩, fun h => ⟨(B16 (erase_not h (by decide))).1.alloc _, (B16 (erase_not h (by decide))).2⟩⟩
    · refine ⟨_, _, rfl, rfl, fun K' hK => ?_⟩
      rw [if_pos (show _ = true by kernel_rfl)]
      go_simp
      refine hK (Act.put (P8 a0 x0 x1 x2 x3 x4 x5 x6 x7) (some 101) (.slice (some ⟨W.heap.size, 0, none⟩) 1 1)) _ (.agg #[.int .i64 2, .slice (some ⟨W.heap.size, 0, none⟩) 1 1]) ?_ ?_ (S1.alloc _)
      · exact yieldsIf_build2 (by kernel_rfl) 40 _ rfl [(0, .int .i64 2), (1, .slice (some ⟨W.heap.size, 0, none⟩) 1 1)] _ (by rw [P8_2]; simp only [List.map_toArray, List.map_cons, List.map_nil, P8_g2 _ _ _ _ _ _ _ _ _ (show 106 < a0.tmps.size by omega)]; rfl) (by kernel_rfl)
      · exact ⟨hsub' 12, x0, x1, .slice (some ⟨W.heap.size, 0, none⟩) 1 1, .agg #[.int .i64 2, .slice (some ⟨W.heap.size, 0, none⟩) 1 1], x4, x5, x6, x7, (by show Act.put (Act.put (P8 a0 x0 x1 x2 x3 x4 x5 x6 x7) (some 101) _) (some 102) _ = _; rw [P8_2, P8_3]), fun h => ⟨(B10 (erase_not h (by decide))).1.alloc _, (B10 (erase_not h (by decide))).2⟩, fun _ => ⟨built_new W [5], rfl⟩, fun h => ⟨(B14 (erase_not h (by decide))).1.alloc _, (B14 (erase_not h (by decide))).2⟩, fun h => ⟨(B16 (erase_not h (by decide))).1.alloc _, (B16 (erase_not h (by decide))).2⟩⟩
    · refine ⟨_, _, rfl, rfl, fun K' hK => ?_⟩
      rw [if_pos (show _ = true by kernel_rfl)]
      go_simp
      refine hK (Act.put (P8 a0 x0 x1 x2 x3 x4 x5 x6 x7) (some 103) (.slice (some ⟨W.heap.size, 0, none⟩) 1 1)) _ (.agg #[.int .i64 3, .slice (some ⟨W.heap.size, 0, none⟩) 1 1]) ?_ ?_ (S1.alloc _)
      · exact yieldsIf_build2 (by kernel_rfl) 40 _ rfl [(0, .int .i64 3), (1, .slice (some ⟨W.heap.size, 0, none⟩) 1 1)] _ (by rw [P8_4]; simp only [List.map_toArray, List.map_cons, List.map_nil, P8_g4 _ _ _ _ _ _ _ _ _ (show 106 < a0.tmps.size by omega)]; rfl) (by kernel_rfl)
      · exact ⟨hsub' 14, x0, x1, x2, x3, .slice (some ⟨W.heap.size, 0, none⟩) 1 1, .agg #[.int .i64 3, .slice (some ⟨W.heap.size, 0, none⟩) 1 1], x6, x7, (by show Act.put (Act.put (P8 a0 x0 x1 x2 x3 x4 x5 x6 x7) (some 103) _) (some 104) _ = _; rw [P8_4, P8_5]), fun h => ⟨(B10 (erase_not h (by decide))).1.alloc _, (B10 (erase_not h (by decide))).2⟩, fun h => ⟨(B12 (erase_not h (by decide))).1.alloc _, (B12 (erase_not h (by decide))).2⟩, fun _ => ⟨built_new W [1], rfl⟩, fun h => ⟨(B16 (erase_not h (by decide))).1.alloc _, (B16 (erase_not h (by decide))).2⟩⟩
    · refine ⟨_, _, rfl, rfl, fun K' hK => ?_⟩
      rw [if_pos (show _ = true by kernel_rfl)]
      go_simp
      refine hK (Act.put (P8 a0 x0 x1 x2 x3 x4 x5 x6 x7) (some 105) (.slice (some ⟨W.heap.size, 0, none⟩) 2 2)) _ (.agg #[.int .i64 4, .slice (some ⟨W.heap.size, 0, none⟩) 2 2]) ?_ ?_ (S1.alloc _)
      · exact yieldsIf_build2 (by kernel_rfl) 40 _ rfl [(0, .int .i64 4), (1, .slice (some ⟨W.heap.size, 0, none⟩) 2 2)] _ (by rw [P8_6]; simp only [List.map_toArray, List.map_cons, List.map_nil, P8_g6 _ _ _ _ _ _ _ _ _ (show 106 < a0.tmps.size by omega)]; rfl) (by kernel_rfl)
      · exact ⟨hsub' 16, x0, x1, x2, x3, x4, x5, .slice (some ⟨W.heap.size, 0, none⟩) 2 2, .agg #[.int .i64 4, .slice (some ⟨W.heap.size, 0, none⟩) 2 2], (by show Act.put (Act.put (P8 a0 x0 x1 x2 x3 x4 x5 x6 x7) (some 105) _) (some 106) _ = _; rw [P8_6, P8_7]), fun h => ⟨(B10 (erase_not h (by decide))).1.alloc _, (B10 (erase_not h (by decide))).2⟩, fun h => ⟨(B12 (erase_not h (by decide))).1.alloc _, (B12 (erase_not h (by decide))).2⟩, fun h => ⟨(B14 (erase_not h (by decide))).1.alloc _, (B14 (erase_not h (by decide))).2⟩, fun _ => ⟨built_new W [1, 44], rfl⟩⟩
  
end Go.Proofs.Ytekgienbhpknlaa.G
end
section
set_option linter.unusedVariables false
set_option linter.unusedSimpArgs false
namespace Go.Proofs.Ytekgienbhpknlaa.G
open Go Go.RowKit Go.Proofs.YtekgienbhpknlaaW.PrintWords Go.Proofs.YtekgienbhpknlaaW.PrintLast Go.Proofs.YtekgienbhpknlaaW.PrintMore Go.Proofs.Ytekgienbhpknlaa.PL Go.Proofs.Ytekgienbhpknlaa.Q
attribute [local go_sem high] eqA46
set_option maxRecDepth 100000 in
set_option maxHeartbeats 8000000 in
theorem told_calls (w : World) : Calls Try.prog 32 #[] w fun e w' => e = .returned (.bool true) ∧ Below w.heap.size w w' := by
  go_enter Try.func32, Try.ntmps32
  go_upto_region 2 with (first
    | (go_at_call 43; refine (plain_any _).mono ?_; rintro e w1 ⟨rfl, hb1⟩; have B1 := Aside0.mk hb1; clear hb1)
    | (refine wpList_store_blk rfl 46 (.tmp 1) (.tmp 24) rfl w1.heap.size (intsA plainL) rfl rfl 46 _ (Blk.new w1 _ _) (by kernel_rfl) rfl (by kernel_rfl) ?_; intro w2 hv hg; have C1 := Aside0.mk hv; have CB := Aside0.mk (below_grown ((Below.refl w1.heap.size w1).alloc (Nat.le_refl _) _) hg (Nat.le_refl _) (by simp only [World.size_alloc]; omega)); clear hv hg))
  obtain ⟨n1, hn1⟩ : ∃ n, n = w1.heap.size := ⟨_, rfl⟩
  have HN1 := Aside0.mk hn1
  rw [← hn1] at C1 CB ⊢
  clear hn1
  go_upto_region 3 with (first
    | (refine wpList_load_str rfl 46 (.tmp 1) rfl n1 rfl 46 (intsA [300, 1, 0, 20, 2, 1, 0, 10, 1, 1, 0, 5, 0, 0, 2]) _ C1.out Try.underlying46 (by kernel_rfl) ?_)
    | (go_at_call 28; refine (fput_val 2 l9 0 w2 put_plain).mono ?_; rintro e w3 ⟨v0, rfl, hN, hb3⟩; have D1 := Aside0.mk (C1.out.below hb3 C1.out.lt); have DB := Aside0.mk (CB.out.trans (hb3.mono (Nat.le_of_lt C1.out.lt))); have DN := Aside0.mk (Kd.N_bound hN); have DS := Aside0.mk (show n1 < w2.heap.size from C1.out.lt); have DZ := Aside0.mk hb3.size; clear hN hb3 C1 CB))
  have hNs := Kd.N_slice DN.out
  rw [show l9.length = 9 from rfl] at hNs
  obtain ⟨A, c, rfl⟩ := hNs
  have hcA := Aside0.mk (show 9 ≤ c from (Kd.N_reads' DN.out).2.1)
  have DF := Aside0.mk (show Kd.F k40 w3 (fun k => n1 < k ∧ k < w3.heap.size) A 9 l9 from Kd.F_mono (Kd.N_F DN.out) (fun k hk => ⟨by have := hk.1; have := DS.out; omega, hk.2⟩))
  clear DN
  change Code.wp _ _ _ _ _
  go_upto_region 4 with (first
    | (go_at_call 33; refine (fget_val A _ c l9 plainL 0 w3 get_l9 (by kernel_rfl) rfl (by decide) (Kd.F_now DF.out) hcA.out).mono ?_; rintro e w4 ⟨rfl, hb4⟩; have E1 := Aside0.mk (D1.out.below hb4 D1.out.lt); have EB := Aside0.mk (DB.out.trans (hb4.mono (Nat.le_of_lt D1.out.lt))); have EF := Aside0.mk (Kd.F_below DF.out hb4); have EZ := Aside0.mk (show w3.heap.size ≤ w4.heap.size from hb4.size); clear hb4 D1 DB DF)
    | (refine wpList_store_blk rfl 46 (.tmp 4) (.tmp 33) rfl w4.heap.size (intsA plainL) rfl rfl 46 _ (Blk.new w4 _ _) (by kernel_rfl) rfl (by kernel_rfl) ?_; intro w5 hv hg
       have T5 := Aside0.mk (show TS n1 w4.heap.size w3.heap.size A 2 w1 w5 from ⟨(E1.out.alloc _).grown hg (by have := E1.out.lt; omega), hv, Kd.F_grown (Kd.F_alloc EF.out _) hg (fun k hk => by have := EZ.out; simp only [ne_eq, Option.some.injEq]; omega), below_grown (EB.out.alloc (Nat.le_of_lt E1.out.lt) _) hg (Nat.le_of_lt E1.out.lt) (by have := E1.out.lt; simp only [World.size_alloc]; omega)⟩)
       have HN := Aside0.mk (show n1 < w4.heap.size ∧ w3.heap.size ≤ w4.heap.size from ⟨E1.out.lt, EZ.out⟩); clear hv hg E1 EB EF EZ))
  obtain ⟨n4, hn4⟩ : ∃ n, n = w4.heap.size := ⟨_, rfl⟩
  obtain ⟨N, hN_⟩ : ∃ n, n = w3.heap.size := ⟨_, rfl⟩
  rw [← hn4, ← hN_] at T5 HN
  rw [← hn4]
  clear hn4 hN_ DS DZ
  have s0 : w5.cell? ⟨n1, 14, none⟩ = some (.int .i64 2) := T5.out.h1.cell 14 _ rfl
  have s1 : w5.frozen? ⟨n1, 14, none⟩ = false := T5.out.h1.frozen 14
  go_upto_region 5 with (fail)
  have T6 := Aside0.mk (TS.put T5.out HN.out 1)
  clear s0 s1 T5
  generalize w5.setCell ⟨n1, 14, none⟩ (.int .i64 1) = w6 at *
  go_upto_region 6 with (first
    | (refine wpList_load_str rfl 46 (.tmp 1) rfl n1 rfl 46 (intsA [300, 1, 0, 20, 2, 1, 0, 10, 1, 1, 0, 5, 0, 0, 1]) _ T6.out.h1 Try.underlying46 (by kernel_rfl) ?_)
    | (go_at_call 28; refine (fput_val 1 [] 18 w6 put_1).mono ?_; rintro e w7 ⟨v7, rfl, _, hb⟩; have T7 := Aside0.mk (T6.out.below hb); clear hb T6))
  have s0 : w7.cell? ⟨n1, 14, none⟩ = some (.int .i64 1) := T7.out.h1.cell 14 _ rfl
  have s1 : w7.frozen? ⟨n1, 14, none⟩ = false := T7.out.h1.frozen 14
  go_upto_region 7 with (fail)
  have T8 := Aside0.mk (TS.put T7.out HN.out 4)
  clear s0 s1 T7
  generalize w7.setCell ⟨n1, 14, none⟩ (.int .i64 4) = w8 at *
  go_upto_region 8 with (first
    | (refine wpList_load_str rfl 46 (.tmp 1) rfl n1 rfl 46 (intsA [300, 1, 0, 20, 2, 1, 0, 10, 1, 1, 0, 5, 0, 0, 4]) _ T8.out.h1 Try.underlying46 (by kernel_rfl) ?_)
    | (go_at_call 28; refine (fput_val 4 [] 1 w8 put_4).mono ?_; rintro e w9 ⟨v9, rfl, _, hb⟩; have T9 := Aside0.mk (T8.out.below hb); clear hb T8))
  go_upto_region 9 with (first
    | (go_at_call 33; have hC := C_two (l1 := []) (A1 := none) (c1 := 0) (Blk.new (w9.alloc (.cells (bytesA [1]) 5)) #[.int .i64 1, .slice (some ⟨w9.heap.size, 0, none⟩) 1 1, .int .i64 130, .slice none 0 0] 40) (C_bytes ((Blk.new w9 (bytesA [1]) 5).alloc (.cells #[.int .i64 1, .slice (some ⟨w9.heap.size, 0, none⟩) 1 1, .int .i64 130, .slice none 0 0] 40)) (by decide)) (Nat.le_refl _) (Kd.C_nil _ _) (Nat.le_refl _); refine (fget_val _ 2 _ [⟨1, [1]⟩, ⟨130, []⟩] z15 16 ((w9.alloc (.cells (bytesA [1]) 5)).alloc (.cells #[.int .i64 1, .slice (some ⟨w9.heap.size, 0, none⟩) 1 1, .int .i64 130, .slice none 0 0] 40)) get_130 (by kernel_rfl) rfl (by decide) (by simpa using hC) (Nat.le_refl _)).mono ?_; rintro e w10 ⟨rfl, hb⟩; have T10 := Aside0.mk (TS.below ((T9.out.alloc _).alloc _) hb); clear hb hC; clear T9)
    | (refine wpList_store_blk rfl 46 (.tmp 10) (.tmp 53) rfl w10.heap.size (intsA z15) rfl rfl 46 _ (Blk.new w10 _ _) (by kernel_rfl) rfl (by kernel_rfl) ?_; intro w11 hv hg; have T11 := Aside0.mk (TS.grown (T10.out.alloc _) HN.out hg (T10.out.h4.lt)); clear hv hg T10))
  go_upto_region 10 with (first
    | (go_at_call 33; have hC := C_two (l1 := []) (A1 := none) (c1 := 0) (Blk.new (w11.alloc (.cells (bytesA [1]) 5)) #[.int .i64 1, .slice (some ⟨w11.heap.size, 0, none⟩) 1 1, .int .i64 14, .slice none 0 0] 40) (C_bytes ((Blk.new w11 (bytesA [1]) 5).alloc (.cells #[.int .i64 1, .slice (some ⟨w11.heap.size, 0, none⟩) 1 1, .int .i64 14, .slice none 0 0] 40)) (by decide)) (Nat.le_refl _) (Kd.C_nil _ _) (Nat.le_refl _); refine (fget_val _ 2 _ [⟨1, [1]⟩, ⟨14, []⟩] z15 15 ((w11.alloc (.cells (bytesA [1]) 5)).alloc (.cells #[.int .i64 1, .slice (some ⟨w11.heap.size, 0, none⟩) 1 1, .int .i64 14, .slice none 0 0] 40)) get_14 (by kernel_rfl) rfl (by decide) (by simpa using hC) (Nat.le_refl _)).mono ?_; rintro e w12 ⟨rfl, hb⟩; have T12 := Aside0.mk (TS.below ((T11.out.alloc _).alloc _) hb); clear hb hC; clear T11)
    | (refine wpList_store_blk rfl 46 (.tmp 12) (.tmp 61) rfl w12.heap.size (intsA z15) rfl rfl 46 _ (Blk.new w12 _ _) (by kernel_rfl) rfl (by kernel_rfl) ?_; intro w13 hv hg; have T13 := Aside0.mk (TS.grown (T12.out.alloc _) HN.out hg (T12.out.h4.lt)); clear hv hg T12))
  go_upto_region 11 with (first
    | (go_at_call 33; have hC := C_one (Blk.new (w13.alloc (.cells (bytesA [0]) 5)) #[.int .i64 1, .slice (some ⟨w13.heap.size, 0, none⟩) 1 1] 40) (C_bytes ((Blk.new w13 (bytesA [0]) 5).alloc (.cells #[.int .i64 1, .slice (some ⟨w13.heap.size, 0, none⟩) 1 1] 40)) (by decide)) (Nat.le_refl _); refine (fget_val _ 1 _ [⟨1, [0]⟩] z15 14 ((w13.alloc (.cells (bytesA [0]) 5)).alloc (.cells #[.int .i64 1, .slice (some ⟨w13.heap.size, 0, none⟩) 1 1] 40)) get_0 (by kernel_rfl) rfl (by decide) (by simpa using hC) (Nat.le_refl _)).mono ?_; rintro e w14 ⟨rfl, hb⟩; have T14 := Aside0.mk (TS.below ((T13.out.alloc _).alloc _) hb); clear hb hC; clear T13)
    | (refine wpList_store_blk rfl 46 (.tmp 14) (.tmp 68) rfl w14.heap.size (intsA z15) rfl rfl 46 _ (Blk.new w14 _ _) (by kernel_rfl) rfl (by kernel_rfl) ?_; intro w15 hv hg; have T15 := Aside0.mk (TS.grown (T14.out.alloc _) HN.out hg (T14.out.h4.lt)); clear hv hg T14))
  go_upto_region 12 with (first
    | (go_at_call 33; refine (fget_val none 0 0 [] z15 12 _ get_nil (by kernel_rfl) rfl (by decide) (Kd.C_nil _ _) (Nat.le_refl _)).mono ?_; rintro e w16 ⟨rfl, hb⟩; have T16 := Aside0.mk (T15.out.below hb); clear hb; clear T15)
    | (refine wpList_store_blk rfl 46 (.tmp 16) (.tmp 72) rfl w16.heap.size (intsA z15) rfl rfl 46 _ (Blk.new w16 _ _) (by kernel_rfl) rfl (by kernel_rfl) ?_; intro w17 hv hg; have T17 := Aside0.mk (TS.grown (T16.out.alloc _) HN.out hg (T16.out.h4.lt)); clear hv hg T16))
  go_upto_region 13 with (first
    | (go_at_call 33; have hC := C_one (Blk.new (w17.alloc (.cells (bytesA [1]) 5)) #[.int .i64 1, .slice (some ⟨w17.heap.size, 0, none⟩) 1 1] 40) (C_bytes ((Blk.new w17 (bytesA [1]) 5).alloc (.cells #[.int .i64 1, .slice (some ⟨w17.heap.size, 0, none⟩) 1 1] 40)) (by decide)) (Nat.le_refl _); refine (fget_val _ 1 _ [⟨1, [1]⟩] z15 9 ((w17.alloc (.cells (bytesA [1]) 5)).alloc (.cells #[.int .i64 1, .slice (some ⟨w17.heap.size, 0, none⟩) 1 1] 40)) get_1 (by kernel_rfl) rfl (by decide) (by simpa using hC) (Nat.le_refl _)).mono ?_; rintro e w18 ⟨rfl, hb⟩; have T18 := Aside0.mk (TS.below ((T17.out.alloc _).alloc _) hb); clear hb hC; clear T17)
    | (refine wpList_store_blk rfl 46 (.tmp 18) (.tmp 79) rfl w18.heap.size (intsA z15) rfl rfl 46 _ (Blk.new w18 _ _) (by kernel_rfl) rfl (by kernel_rfl) ?_; intro w19 hv hg; have T19 := Aside0.mk (TS.grown (T18.out.alloc _) HN.out hg (T18.out.h4.lt)); clear hv hg T18))
  go_upto_region 14 with (first
    | (go_at_call 30; refine (fields_Name.calls 9 9 3 true _ rfl).mono ?_; rintro e w30 ⟨rfl, nd, rfl⟩))
  go_upto_region 15 with (first
    | (go_at_call 30; refine (fields_Name.calls 9 14 0 false _ rfl).mono ?_; rintro e w31 ⟨rfl, nd2, rfl⟩))
  have TZ := TS.drewN T19.out (nd + nd2)
  clear T19
  generalize w19.drewN (nd + nd2) = w40 at *
  exact told_tail _ rfl w w1 w40 n1 n4 N c A B1 HN1 hcA ⟨TZ⟩ _ (by assumption) _ _ _ _ _ _ _ _ _ _ _ _ _ _ _ _ _ _ _ _ _ _ _ _ _ _ _ _ _ _ _ _ _ _ _ _ _ _ _ _ _ _ _ _ _ _ _ _ _ _ _ _ _ _ _ _ _ _ _ _ _ _ _ _ _ _ _ _ _ _ _ _ _ _ _ _ _ _ _ _ _ _ _ _ _ _ _ _ _ _ _ _ _ _ _ _ _ _ _ _ _ _ _ _ _ _ _ _ _ _ _ _ _ _ _ _ _ _ _ _ _ _ _ _ _ _ _ _ _ _ _ _ _ _ _ _ _ _ _ _ _ _ _
end Go.Proofs.Ytekgienbhpknlaa.G
end
section
namespace Go.Proofs.Ytekgienbhpknlaa.Pure
open Go Go.RowKit Go.Proofs.Ytekgienbhpknlaa.G Go.Proofs.Ytekgienbhpknlaa.PL Go.Proofs.YtekgienbhpknlaaW.PrintWords Go.Proofs.YtekgienbhpknlaaW.PrintLast Go.Proofs.YtekgienbhpknlaaW.PrintMore
theorem w64 {x : Int} (h0 : -9223372036854775808 ≤ x) (h1 : x ≤ 9223372036854775807) : wrap64 x = x := by
  unfold wrap64
  omega
theorem i64_of {n : Int} (h : (Lit.int .i64 n).wf = true) : -9223372036854775808 ≤ n ∧ n ≤ 9223372036854775807 := by
  have h1 : IntKind.i64.min = -9223372036854775808 := rfl
  have h2 : IntKind.i64.max = 9223372036854775807 := rfl
  simp only [Lit.wf, Bool.and_eq_true, decide_eq_true_eq] at h
  omega
end Go.Proofs.Ytekgienbhpknlaa.Pure
end
