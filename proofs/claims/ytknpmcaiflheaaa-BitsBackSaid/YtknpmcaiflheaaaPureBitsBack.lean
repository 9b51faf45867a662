/- What was made bytes is words again, and what was put is got again: for any rows of at most 4000 bytes and 1000 words (others are let go) and any two ints. -/
import Derived.Test.YtknpmcaiflheaaaQBitsRef
import Derived.Test.YtknpmcaiflheaaaQBitsNum
import Derived.Test.YtknpmcaiflheaaaQTurned
import Derived.Test.YtknpmcaiflheaaaPLx5
namespace Go.Proofs.Ytknpmcaiflheaaa.Pure
open Go Go.RowKit Go.Proofs.Ytknpmcaiflheaaa.Q Go.Proofs.Ytknpmcaiflheaaa.PL Go.Proofs.YtknpmcaiflheaaaW.PrintWords Go.Proofs.YtknpmcaiflheaaaW.PrintLast Go.Proofs.YtknpmcaiflheaaaW.PrintMore
theorem bb_j2 (n size : Int) (hn : n ≤ 9223372036854775807) : Ev (fun k => gatelinelaw01_BitsBack.j2 k n size false) true := by
  obtain ⟨K1, e1⟩ := turned_ev
  obtain ⟨K2, e2⟩ := put_ev n size
  by_cases h : (putR n size).2 = 0
  · obtain ⟨hg, hlen, hB⟩ := get_put n size hn h
    obtain ⟨K3, e3⟩ := get_ev (putR n size).1 hB
    refine ⟨K1 + K2 + K3 + 1, fun k hk => ?_⟩
    obtain ⟨k, rfl⟩ : ∃ j, k = j + 1 := ⟨k - 1, by omega⟩
    have f2 : bits_Put.f k n size = _ := e2 k (by omega)
    have f3 : bits_Get.f k (putR n size).1 = _ := e3 k (by omega)
    show gatelinelaw01_BitsBack.j2 (k + 1) n size false = _
    rw [gatelinelaw01_BitsBack.j2, if_neg (by decide), f2, Option.bind_some, if_pos h, f3, Option.bind_some, e1 k (by omega), Option.bind_some, if_pos rfl, hg, if_pos rfl, if_pos rfl, hlen]
    simp
  · refine ⟨K1 + K2 + 1, fun k hk => ?_⟩
    obtain ⟨k, rfl⟩ : ∃ j, k = j + 1 := ⟨k - 1, by omega⟩
    have f2 : bits_Put.f k n size = _ := e2 k (by omega)
    show gatelinelaw01_BitsBack.j2 (k + 1) n size false = _
    rw [gatelinelaw01_BitsBack.j2, if_neg (by decide), f2, Option.bind_some, if_neg h, e1 k (by omega), Option.bind_some]
theorem bb_j1 (w : List Int) (n size : Int) (hw : IsWords w) (hwl : w.length ≤ 1000) (hn : n ≤ 9223372036854775807) : Ev (fun k => gatelinelaw01_BitsBack.j1 k w n size false) true := by
  obtain ⟨K1, e1⟩ := bb_j2 n size hn
  obtain ⟨K2, e2⟩ := bytes_ev w (by omega)
  obtain ⟨K3, e3⟩ := words_ev (bytesOfW w) (bytesOfW_isBytes w) (by rw [bytesOfW_length]; omega)
  obtain ⟨K4, e4⟩ := sameWords_ev w w (by omega)
  have hr : wordsR (bytesOfW w) = (w, 0) := by
    unfold wordsR
    rw [if_pos (by rw [bytesOfW_length]; omega), words_bytes w hw]
  rw [hr] at e3
  refine ⟨K1 + K2 + K3 + K4 + 1, fun k hk => ?_⟩
  obtain ⟨k, rfl⟩ : ∃ j, k = j + 1 := ⟨k - 1, by omega⟩
  have f2 : bits_Bytes.f k w = _ := e2 k (by omega)
  have f3 : bits_Words.f k (bytesOfW w) = _ := e3 k (by omega)
  have f4 : gatelineref01_SameWords.f k w w = _ := e4 k (by omega)
  have f1 : gatelinelaw01_BitsBack.j2 k n size false = _ := e1 k (by omega)
  show gatelinelaw01_BitsBack.j1 (k + 1) w n size false = _
  rw [gatelinelaw01_BitsBack.j1, if_neg (by decide), f2, Option.bind_some, f3, Option.bind_some, if_pos rfl, f4, Option.bind_some, decide_eq_true rfl]
  exact f1
theorem bb_j0 (b w : List Int) (n size : Int) (hb : IsBytes b) (hw : IsWords w) (hbl : b.length ≤ 4000) (hwl : w.length ≤ 1000) (hn : n ≤ 9223372036854775807) : Ev (fun k => gatelinelaw01_BitsBack.j0 k b w n size false) true := by
  obtain ⟨K1, e1⟩ := bb_j1 w n size hw hwl hn
  obtain ⟨K2, e2⟩ := words_ev b hb (by omega)
  by_cases h : b.length % 4 = 0
  · have hr : wordsR b = (wordsOf b, 0) := if_pos h
    rw [hr] at e2
    obtain ⟨K3, e3⟩ := bytes_ev (wordsOf b) (by rw [wordsOf_length]; omega)
    rw [bytes_words (b.length / 4) b (by omega) hb] at e3
    obtain ⟨K4, e4⟩ := same_true b (by omega)
    refine ⟨K1 + K2 + K3 + K4 + 1, fun k hk => ?_⟩
    obtain ⟨k, rfl⟩ : ∃ j, k = j + 1 := ⟨k - 1, by omega⟩
    have f2 : bits_Words.f k b = _ := e2 k (by omega)
    have f3 : bits_Bytes.f k (wordsOf b) = _ := e3 k (by omega)
    have f4 : gatelineref01_Same.f k b b = _ := e4 k (by omega)
    have f1 : gatelinelaw01_BitsBack.j1 k w n size false = _ := e1 k (by omega)
    show gatelinelaw01_BitsBack.j0 (k + 1) b w n size false = _
    rw [gatelinelaw01_BitsBack.j0, if_neg (by decide), f2, Option.bind_some, if_pos rfl, f3, Option.bind_some, f4, Option.bind_some]
    exact f1
  · have hr : wordsR b = ([], 1) := if_neg h
    rw [hr] at e2
    refine ⟨K1 + K2 + 1, fun k hk => ?_⟩
    obtain ⟨k, rfl⟩ : ∃ j, k = j + 1 := ⟨k - 1, by omega⟩
    have f2 : bits_Words.f k b = _ := e2 k (by omega)
    have f1 : gatelinelaw01_BitsBack.j1 k w n size false = _ := e1 k (by omega)
    show gatelinelaw01_BitsBack.j0 (k + 1) b w n size false = _
    rw [gatelinelaw01_BitsBack.j0, if_neg (by decide), f2, Option.bind_some, if_neg (by decide)]
    exact f1
theorem bb_true (b w : List Int) (n size : Int) : Ev (fun k => gatelinelaw01_BitsBack.j0 k b w n size true) true :=
  ⟨1, fun k hk => by
    obtain ⟨k, rfl⟩ : ∃ j, k = j + 1 := ⟨k - 1, by omega⟩
    show gatelinelaw01_BitsBack.j0 (k + 1) b w n size true = _
    rw [gatelinelaw01_BitsBack.j0, if_pos rfl]⟩
theorem BitsBack : gatelinelaw01_BitsBack.Pure := by
  intro b w n size _ _ hb _ _ hw hn _
  have hB := isBytes_of hb
  have hW := isWords_of hw
  have hN := i64_of hn
  unfold gatelinelaw01_BitsBack.f
  by_cases c1 : (b.length : Int) > 4000
  · simp only [if_pos c1]; exact (bb_true b w n size).rounds
  by_cases c2 : (w.length : Int) > 1000
  · simp only [if_neg c1, decide_eq_true c2]; exact (bb_true b w n size).rounds
  · simp only [if_neg c1, decide_eq_false c2]; exact (bb_j0 b w n size hB hW (by omega) (by omega) hN.2).rounds
end Go.Proofs.Ytknpmcaiflheaaa.Pure
