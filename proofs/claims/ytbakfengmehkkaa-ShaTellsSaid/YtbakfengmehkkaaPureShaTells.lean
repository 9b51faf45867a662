/- Unlike bytes are padded unlike: for any two rows of bytes. -/
import Derived.Test.YtbakfengmehkkaaQPad
import Derived.Test.YtbakfengmehkkaaPLyS
import Derived.Test.YtbakfengmehkkaaPLyT
namespace Go.Proofs.Ytbakfengmehkkaa.Pure
open Go Go.RowKit Go.Proofs.Ytbakfengmehkkaa.PL Go.Proofs.Ytbakfengmehkkaa.Q Go.Proofs.YtbakfengmehkkaaW.PrintWords Go.Proofs.YtbakfengmehkkaaW.PrintLast
theorem padR_inj {a b : List Int} (ha : a.length ≤ 2000) (hb : b.length ≤ 2000) (h : padR a = padR b) : a = b := by
  unfold padR at h
  obtain ⟨h1, h2⟩ := List.append_inj' h (by rw [bytesOfW_length, bytesOfW_length]; rfl)
  have hw : ∀ n : Int, IsWords [hiW n, loW n] := fun n x hx => by
    simp only [List.mem_cons, List.not_mem_nil, or_false] at hx
    rcases hx with rfl | rfl
    · unfold hiW; omega
    · unfold loW; omega
  have h3 := congrArg wordsOf h2
  rw [words_bytes _ (hw _), words_bytes _ (hw _)] at h3
  simp only [List.cons.injEq, and_true] at h3
  have hl : a.length = b.length := by have := h3.2; unfold loW at this; omega
  rw [hl] at h1
  rw [List.append_assoc, List.append_assoc] at h1
  exact (List.append_inj h1 hl).1
theorem ShaTells : gatelinelaw02_ShaTells.Pure := by
  intro a b _ _ _ _ _ _
  by_cases h : (a.length : Int) > 2000
  · exact ⟨1, by unfold gatelinelaw02_ShaTells.f; rw [if_pos h, gatelinelaw02_ShaTells.j0, if_pos rfl]⟩
  · by_cases g : (b.length : Int) > 2000
    · exact ⟨1, by unfold gatelinelaw02_ShaTells.f; rw [if_neg h, decide_eq_true g, gatelinelaw02_ShaTells.j0, if_pos rfl]⟩
    · obtain ⟨K1, h1⟩ := pad_ev a (by omega)
      obtain ⟨K2, h2⟩ := pad_ev b (by omega)
      have hz := zeros_lt a.length
      obtain ⟨K3, h3⟩ := same_ev (padR a) (padR b) (by rw [padR_length]; omega)
      obtain ⟨K4, h4⟩ := same_ev a b (by omega)
      replace h1 : ∀ k, K1 ≤ k → sha_Pad.f k a = some (padR a) := h1
      replace h2 : ∀ k, K2 ≤ k → sha_Pad.f k b = some (padR b) := h2
      replace h3 : ∀ k, K3 ≤ k → gatelineref01_Same.f k (padR a) (padR b) = some (decide (padR a = padR b)) := h3
      replace h4 : ∀ k, K4 ≤ k → gatelineref01_Same.f k a b = some (decide (a = b)) := h4
      refine ⟨K1 + K2 + K3 + K4 + 1, ?_⟩
      unfold gatelinelaw02_ShaTells.f
      rw [if_neg h, decide_eq_false g, gatelinelaw02_ShaTells.j0, if_neg (by decide), show gatelinelaw02_summed.f = some true from rfl, Option.bind_some, if_pos rfl, h1 _ (by omega), Option.bind_some, h2 _ (by omega), Option.bind_some, h3 _ (by omega), Option.bind_some, h4 _ (by omega), Option.bind_some]
      by_cases e : a = b
      · subst e; simp
      · rw [decide_eq_false e, decide_eq_false (fun h => e (padR_inj (by omega) (by omega) h))]; rfl
end Go.Proofs.Ytbakfengmehkkaa.Pure
