/- Bytes are just the reference's words, or none, and words just its bytes: for any rows of at most 4000 bytes and 1000 words (others are let go). -/
import Derived.Test.YtknpmcaiflheaaaQBitsRef
import Derived.Test.YtknpmcaiflheaaaQTurned
import Derived.Test.YtknpmcaiflheaaaPLx4
namespace Go.Proofs.Ytknpmcaiflheaaa.Pure
open Go Go.RowKit Go.Proofs.Ytknpmcaiflheaaa.Q Go.Proofs.Ytknpmcaiflheaaa.PL Go.Proofs.YtknpmcaiflheaaaW.PrintWords Go.Proofs.YtknpmcaiflheaaaW.PrintLast Go.Proofs.YtknpmcaiflheaaaW.PrintMore
theorem bw_true (b w : List Int) : Ev (fun k => gatelinelaw01_BitsWords.j0 k b w true) true :=
  ⟨1, fun k hk => by
    obtain ⟨k, rfl⟩ : ∃ j, k = j + 1 := ⟨k - 1, by omega⟩
    show gatelinelaw01_BitsWords.j0 (k + 1) b w true = _
    rw [gatelinelaw01_BitsWords.j0, if_pos rfl]⟩
theorem bw_false (b w : List Int) (hb : IsBytes b) (hw : IsWords w) (hbl : b.length ≤ 4000) (hwl : w.length ≤ 1000) : Ev (fun k => gatelinelaw01_BitsWords.j0 k b w false) true := by
  obtain ⟨K1, e1⟩ := turned_ev
  obtain ⟨K2, e2⟩ := words_ev b hb (by omega)
  obtain ⟨K3, e3⟩ := refWords_ev b hb (by omega)
  obtain ⟨K4, e4⟩ := bytes_ev w (by omega)
  obtain ⟨K5, e5⟩ := refBytes_ev w hw (by omega)
  obtain ⟨K6, e6⟩ := sameWords_ev (wordsR b).1 (wordsR b).1 (by have := wordsR_length b; omega)
  obtain ⟨K7, e7⟩ := same_true (bytesOfW w) (by rw [bytesOfW_length]; omega)
  refine ⟨K1 + K2 + K3 + K4 + K5 + K6 + K7 + 1, fun k hk => ?_⟩
  obtain ⟨k, rfl⟩ : ∃ j, k = j + 1 := ⟨k - 1, by omega⟩
  have f2 : bits_Words.f k b = _ := e2 k (by omega)
  have f3 : gatelineref01_Words.f k b = _ := e3 k (by omega)
  have f4 : bits_Bytes.f k w = _ := e4 k (by omega)
  have f5 : gatelineref01_Bytes.f k w = _ := e5 k (by omega)
  have f6 : gatelineref01_SameWords.f k (wordsR b).1 (wordsR b).1 = _ := e6 k (by omega)
  have f7 : gatelineref01_Same.f k (bytesOfW w) (bytesOfW w) = _ := e7 k (by omega)
  show gatelinelaw01_BitsWords.j0 (k + 1) b w false = _
  rw [gatelinelaw01_BitsWords.j0, if_neg (by decide), f2, Option.bind_some, f3, Option.bind_some, e1 k (by omega), Option.bind_some, if_pos rfl, f6, Option.bind_some, if_pos (decide_eq_true rfl), if_pos rfl, f4, Option.bind_some, f5, Option.bind_some, f7, Option.bind_some]
theorem BitsWords : gatelinelaw01_BitsWords.Pure := by
  intro b w _ _ hb _ _ hw
  have hB := isBytes_of hb
  have hW := isWords_of hw
  unfold gatelinelaw01_BitsWords.f
  by_cases c1 : (b.length : Int) > 4000
  · simp only [if_pos c1]; exact (bw_true b w).rounds
  by_cases c2 : (w.length : Int) > 1000
  · simp only [if_neg c1, decide_eq_true c2]; exact (bw_true b w).rounds
  · simp only [if_neg c1, decide_eq_false c2]; exact (bw_false b w hB hW (by omega) (by omega)).rounds
end Go.Proofs.Ytknpmcaiflheaaa.Pure
