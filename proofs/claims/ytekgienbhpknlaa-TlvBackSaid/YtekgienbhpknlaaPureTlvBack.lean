/- What was put is got again, and what was got is right, and put as it was: for any row of at most 300 fields of at most 400 bytes and any row of at most 3000 bytes (others are let go). -/
import Derived.Test.YtekgienbhpknlaaQBig
import Derived.Test.YtekgienbhpknlaaPLx6
namespace Go.Proofs.Ytekgienbhpknlaa.Pure
open Go Go.RowKit Go.Proofs.Ytekgienbhpknlaa.Q Go.Proofs.Ytekgienbhpknlaa.PL Go.Proofs.Ytekgienbhpknlaa.G Go.Proofs.YtekgienbhpknlaaW.PrintWords Go.Proofs.YtekgienbhpknlaaW.PrintLast Go.Proofs.YtekgienbhpknlaaW.PrintMore
theorem back_j1 (b : List Int) (hB : IsBytes b) (hlen : b.length ≤ 3000) : Ev (fun k => gatelinelaw17_TlvBack.j1 k b) true := by
  have hl := getG_length (b.length + 1) b 0
  have hl2 : (getRG b).1.length ≤ b.length + 1 := hl
  obtain ⟨K1, e1⟩ := listed_ev
  obtain ⟨K2, e2⟩ := tput_ev (getRG b).1 (by omega)
  obtain ⟨K3, e3⟩ := same_true b (by omega)
  obtain ⟨K4, e4⟩ := is_ev (getRG b).1 (by omega)
  refine ⟨K1 + K2 + K3 + K4 + 1, fun k hk => ?_⟩
  obtain ⟨k, rfl⟩ : ∃ m, k = m + 1 := ⟨k - 1, by omega⟩
  have f2 : tlv_Put.f k (getRG b).1 = _ := e2 k (by omega)
  have f3 : gatelineref01_Same.f k b b = _ := e3 k (by omega)
  have f4 : tlv_Is.f k (getRG b).1 = _ := e4 k (by omega)
  show gatelinelaw17_TlvBack.j1 (k + 1) b = _
  rw [gatelinelaw17_TlvBack.j1, tget_eq b hB (by omega), Option.bind_some]
  by_cases h : (getRG b).2 = 0
  · obtain ⟨i1, i2⟩ := put_getG (b.length + 1) b 0 (getRG b).1 hB (by omega) (Prod.ext rfl h)
    have hp : putRG (getRG b).1 = (b, 0) := by unfold putRG; rw [if_pos i1, i2]
    rw [if_pos h, f2, hp, Option.bind_some, e1 k (by omega), Option.bind_some, if_pos rfl, if_pos rfl, f3, Option.bind_some, if_pos rfl, f4, Option.bind_some, i1]
  · have hn : (getRG b).1 = [] := getG_err (b.length + 1) b 0 h
    rw [if_neg h, e1 k (by omega), Option.bind_some, if_pos rfl, hn]
    rfl
theorem TlvBack (l : List S) (_ : l.length ≤ maxLen) (hl : ∀ f ∈ l, FieldOk f) (b : List Int) (_ : b.length ≤ maxLen) (hb : ∀ x ∈ b, (Lit.int .u8 x).wf = true) : ∃ k, gatelinelaw17_TlvBack.f k l b = some true := by
  have hB := isBytes_of hb
  obtain ⟨K0, e0⟩ := big_ev l
  have jt : ∀ k, gatelinelaw17_TlvBack.j0 (k + 1) l b true = some true := fun k => by rw [gatelinelaw17_TlvBack.j0, if_pos rfl]
  unfold gatelinelaw17_TlvBack.f
  by_cases c : bigR l = true
  · exact ⟨K0 + 1, by have f0 : gatelineref17_Big.f (K0 + 1) l = _ := e0 (K0 + 1) (by omega); rw [f0, Option.bind_some, if_pos c, jt]⟩
  · by_cases c2 : (b.length : Int) > 3000
    · exact ⟨K0 + 1, by have f0 : gatelineref17_Big.f (K0 + 1) l = _ := e0 (K0 + 1) (by omega); rw [f0, Option.bind_some, if_neg c, decide_eq_true c2, jt]⟩
    · have hbl := big_not l c
      obtain ⟨K1, e1⟩ := back_j1 b hB (by omega)
      obtain ⟨K2, e2⟩ := tput_ev l (by omega)
      obtain ⟨K3, e3⟩ := same17_ev l l 400 (by omega) (by omega) hbl.2
      refine ⟨K0 + K1 + K2 + K3 + 1, ?_⟩
      generalize hk : K0 + K1 + K2 + K3 = k
      have f0 : gatelineref17_Big.f (k + 1) l = _ := e0 (k + 1) (by omega)
      have f1 : gatelinelaw17_TlvBack.j1 k b = _ := e1 k (by omega)
      have f2 : tlv_Put.f k l = _ := e2 k (by omega)
      have f3 : gatelineref17_Same.f k l l = _ := e3 k (by omega)
      rw [f0, Option.bind_some, if_neg c, decide_eq_false c2, gatelinelaw17_TlvBack.j0, if_neg (by decide), f2, Option.bind_some]
      by_cases h : isG 0 l = true
      · have hp : putRG l = (putG l, 0) := by unfold putRG; rw [if_pos h]
        have hpl := putRG_length l
        rw [hp] at hpl
        have hg : getRG (putG l) = (l, 0) := get_putG l ((putG l).length + 1) 0 (by omega) h (by omega)
        rw [hp, if_pos rfl, tget_eq (putG l) (putG_bytes l hl) (by show (putG l).length < _; have : (putG l).length ≤ 70000 := hpl; omega), Option.bind_some, hg, if_pos rfl, f3, Option.bind_some, if_pos (by simp), f1]
      · have hp : putRG l = ([], 1) := by unfold putRG; rw [if_neg h]
        rw [hp, if_neg (by decide), f1]
end Go.Proofs.Ytekgienbhpknlaa.Pure
