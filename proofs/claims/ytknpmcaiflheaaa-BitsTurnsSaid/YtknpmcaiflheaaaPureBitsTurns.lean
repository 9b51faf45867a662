/- Turns add up and can be turned back: for any word and any two ints from -1000 to 1000 (and the example, for all others). -/
import Derived.Test.YtknpmcaiflheaaaQBits
import Derived.Test.YtknpmcaiflheaaaQTurned
import Derived.Test.YtknpmcaiflheaaaPLx5
namespace Go.Proofs.Ytknpmcaiflheaaa.Pure
open Go Go.RowKit Go.Proofs.Ytknpmcaiflheaaa.Q Go.Proofs.Ytknpmcaiflheaaa.PL Go.Proofs.YtknpmcaiflheaaaW.PrintWords Go.Proofs.YtknpmcaiflheaaaW.PrintLast Go.Proofs.YtknpmcaiflheaaaW.PrintMore
theorem turns_true (x m n : Int) : Ev (fun k => gatelinelaw01_BitsTurns.j0 k x m n true) true := by
  obtain ⟨K1, e1⟩ := turned_ev
  refine ⟨K1 + 1, fun k hk => ?_⟩
  obtain ⟨k, rfl⟩ : ∃ j, k = j + 1 := ⟨k - 1, by omega⟩
  show gatelinelaw01_BitsTurns.j0 (k + 1) x m n true = _
  rw [gatelinelaw01_BitsTurns.j0, if_pos rfl, e1 _ (by omega), Option.bind_some]
theorem turns_false (x m n : Int) (h0 : 0 ≤ x) (h1 : x < 4294967296) (hm : -1000 ≤ m ∧ m ≤ 1000) (hn : -1000 ≤ n ∧ n ≤ 1000) : Ev (fun k => gatelinelaw01_BitsTurns.j0 k x m n false) true := by
  obtain ⟨K1, e1⟩ := turned_ev
  refine ⟨K1 + 1, fun k hk => ?_⟩
  obtain ⟨k, rfl⟩ : ∃ j, k = j + 1 := ⟨k - 1, by omega⟩
  have ek := e1 k (by omega)
  have w1 : wrap64 (m + n) = m + n := w64 (by omega) (by omega)
  have w2 : wrap64 (-m) = -m := w64 (by omega) (by omega)
  have w3 : wrap64 (32 * m) = 32 * m := w64 (by omega) (by omega)
  show gatelinelaw01_BitsTurns.j0 (k + 1) x m n false = _
  rw [gatelinelaw01_BitsTurns.j0, if_neg (by decide), ek, Option.bind_some, if_pos rfl, rot_some x m h0 h1, Option.bind_some, rot_some (T x m) n (T_range x m h1).1 (T_range x m h1).2, Option.bind_some, w1, rot_some x (m + n) h0 h1, Option.bind_some,
    if_pos (T_T x m n h1), Option.bind_some, w2, rot_some (T x m) (-m) (T_range x m h1).1 (T_range x m h1).2, Option.bind_some, T_T x m (-m) h1, T_zero x (m + -m) h0 (by rw [Int.add_right_neg]; rfl), if_pos rfl, w3, rot_some x (32 * m) h0 h1, Option.bind_some, T_zero x (32 * m) h0 (Int.mul_emod_right 32 m)]
  simp
theorem BitsTurns : gatelinelaw01_BitsTurns.Pure := by
  intro x m n hx hm hn
  obtain ⟨h0, h1⟩ := u32_of hx
  unfold gatelinelaw01_BitsTurns.f
  by_cases c1 : m < -1000
  · simp only [if_pos c1]; exact (turns_true x m n).rounds
  by_cases c2 : m > 1000
  · simp only [if_neg c1, if_pos c2]; exact (turns_true x m n).rounds
  by_cases c3 : n < -1000
  · simp only [if_neg c1, if_neg c2, if_pos c3]; exact (turns_true x m n).rounds
  by_cases c4 : n > 1000
  · simp only [if_neg c1, if_neg c2, if_neg c3, decide_eq_true c4]; exact (turns_true x m n).rounds
  · simp only [if_neg c1, if_neg c2, if_neg c3, decide_eq_false c4]; exact (turns_false x m n h0 h1 (by omega) (by omega)).rounds
end Go.Proofs.Ytknpmcaiflheaaa.Pure
