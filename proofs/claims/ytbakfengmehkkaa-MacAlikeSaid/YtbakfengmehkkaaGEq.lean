/- Equality of arrays of whole numbers: an array is equal to itself. -/
import Derived.Test.YtbakfengmehkkaaGSum
import Derived.DeepKeys
namespace Go.Proofs.Ytbakfengmehkkaa.G
open Go Go.RowKit Go.Proofs.YtbakfengmehkkaaW.PrintWords Go.Proofs.YtbakfengmehkkaaW.PrintLast Go.Proofs.YtbakfengmehkkaaW.PrintMore
section
variable {P : Program} (w : World)
theorem eq_items {k : IntKind} (d : Nat) {e : TypeId} (he : P.underlying e = some (.int k)) (hp : P.plainKey e = true) (xs : List Int) : ∀ is : List Nat, (∀ i ∈ is, i < xs.length) →
    (Op.eqItems (d + 1) e 1 (xs.map (Value.int k)).toArray (xs.map (Value.int k)).toArray is).run P w = .ok true w
  | [], _ => by simp [Op.eqItems]
  | i :: is, h => by
    have hi : i < xs.length := h i (by simp)
    have hp1 : (part e (xs.map (Value.int k)).toArray (i * 1)).run P w = .ok (.int k (xs.getD i 0)) w := run_part_plain w hp (by simp [hi])
    have heq : (Op.equalIn (d + 1) e (.int k (xs.getD i 0)) (.int k (xs.getD i 0))).run P w = .ok true w := by
      simp [Op.equalIn, run_underlying he]
    simp only [Op.eqItems, Sem.run_bind, hp1, heq, Result.andThen_ok]
    simpa using eq_items d he hp xs is (fun j hj => h j (by simp [hj]))
theorem eq_self {k : IntKind} (d n : Nat) {t e : TypeId} (ht : P.underlying t = some (.array n e)) (he : P.underlying e = some (.int k)) (hp : P.plainKey e = true) (hc : P.cellsOf e = 1) (xs : List Int) (hl : xs.length = n) :
    (Op.equalIn (d + 2) t (.agg (xs.map (Value.int k)).toArray) (.agg (xs.map (Value.int k)).toArray)).run P w = .ok true w := by
  obtain ⟨i, hi⟩ := info_of_underlying he
  rw [run_equalIn_array w (d + 1) _ _ ht hi, hc]
  exact eq_items w d he hp xs (List.range n) (fun j hj => by rw [hl]; simpa using hj)
end
theorem eq8 (d : Nat) (w : World) (l : List Int) (h : l.length = 8) : (Op.equalIn (d + 2) 28 (.agg (wordsA l)) (.agg (wordsA l))).run Try.prog w = .ok true w := eq_self w d 8 Try.underlying28 Try.underlying27 (by kernel_rfl) (by kernel_rfl) l h
theorem eq32 (d : Nat) (w : World) (l : List Int) (h : l.length = 32) : (Op.equalIn (d + 2) 32 (.agg (bytesA l)) (.agg (bytesA l))).run Try.prog w = .ok true w := eq_self w d 32 Try.underlying32 Try.underlying5 (by kernel_rfl) (by kernel_rfl) l h
theorem eq64 (d : Nat) (w : World) (l : List Int) (h : l.length = 64) : (Op.equalIn (d + 2) 41 (.agg (bytesA l)) (.agg (bytesA l))).run Try.prog w = .ok true w := eq_self w d 64 Try.underlying41 Try.underlying5 (by kernel_rfl) (by kernel_rfl) l h
/-- The digest of abc. -/
def abcL : List Int := [0xba, 0x78, 0x16, 0xbf, 0x8f, 0x01, 0xcf, 0xea, 0x41, 0x41, 0x40, 0xde, 0x5d, 0xae, 0x22, 0x23, 0xb0, 0x03, 0x61, 0xa3, 0x96, 0x17, 0x7a, 0x9c, 0xb4, 0x10, 0xff, 0x61, 0xf2, 0x00, 0x15, 0xad]
theorem sum_abc : sumR [97, 98, 99] = abcL := by decide +kernel
end Go.Proofs.Ytbakfengmehkkaa.G
