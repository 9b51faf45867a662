/- Fields behind others are put as their bytes behind the others', or refused as the rule says: for any two rows of at most 300 fields of at most 400 bytes (others are let go). -/
import Derived.Test.YtekgienbhpknlaaQBig
import Derived.Test.YtekgienbhpknlaaPLx7
namespace Go.Proofs.Ytekgienbhpknlaa.Pure
open Go Go.RowKit Go.Proofs.Ytekgienbhpknlaa.Q Go.Proofs.Ytekgienbhpknlaa.PL Go.Proofs.Ytekgienbhpknlaa.G Go.Proofs.YtekgienbhpknlaaW.PrintWords Go.Proofs.YtekgienbhpknlaaW.PrintLast Go.Proofs.YtekgienbhpknlaaW.PrintMore
def lt : Int → List S → Int
  | last, [] => last
  | _, f :: l => lt f.f0 l
theorem isG_append (l m : List S) : ∀ last, isG last (l ++ m) = (isG last l && isG (lt last l) m) := by
  induction l with
  | nil => intro last; simp [isG, lt]
  | cons f l ih =>
    intro last
    rw [List.cons_append, isG, isG]
    by_cases h : f.f0 ≤ last ∨ f.f0 > 255 ∨ f.f1.length > 255
    · rw [if_pos h, if_pos h]
      rfl
    · rw [if_neg h, if_neg h, ih]
      rfl
theorem isG_low (m : List S) (a b : Int) (hb : b ≤ a) (h : isG a m = true) : isG b m = true := by
  cases m with
  | nil => rfl
  | cons f m =>
    rw [isG] at h ⊢
    by_cases c : f.f0 ≤ a ∨ f.f0 > 255 ∨ f.f1.length > 255
    · rw [if_pos c] at h; cases h
    · rw [if_neg c] at h
      rw [if_neg (by omega)]
      exact h
theorem lt_ge (l : List S) : ∀ last, isG last l = true → last ≤ lt last l := by
  induction l with
  | nil => intro last _; exact Int.le_refl _
  | cons f l ih =>
    intro last h
    rw [isG] at h
    by_cases c : f.f0 ≤ last ∨ f.f0 > 255 ∨ f.f1.length > 255
    · rw [if_pos c] at h; cases h
    · rw [if_neg c] at h
      have := ih f.f0 h
      show last ≤ lt f.f0 l
      omega
theorem lt_last (l : List S) : ∀ last, (h : 0 < l.length) → lt last l = (l[l.length - 1]).f0 := by
  induction l with
  | nil => intro last h; simp at h
  | cons f l ih =>
    intro last _
    show lt f.f0 l = _
    cases l with
    | nil => rfl
    | cons g l =>
      rw [ih f.f0 (by simp)]
      simp
theorem putG_append (l m : List S) : putG (l ++ m) = putG l ++ putG m := by simp [putG]
theorem isG_next (m : List S) (a : Int) (h0 : isG 0 m = true) : isG a m = true ∨ ∃ h : 0 < m.length, (m[0]).f0 ≤ a := by
  cases m with
  | nil => exact .inl rfl
  | cons f m =>
    rw [isG] at h0 ⊢
    by_cases c : f.f0 ≤ 0 ∨ f.f0 > 255 ∨ f.f1.length > 255
    · rw [if_pos c] at h0; cases h0
    · rw [if_neg c] at h0
      by_cases c2 : f.f0 ≤ a
      · exact .inr ⟨by simp, c2⟩
      · rw [if_neg (by omega)]
        exact .inl h0
theorem isG_not (m : List S) (a : Int) (h : 0 < m.length) (hle : (m[0]).f0 ≤ a) : isG a m = false := by
  cases m with
  | nil => simp at h
  | cons f m =>
    rw [isG, if_pos (.inl hle)]
theorem TlvJoins (l : List S) (_ : l.length ≤ maxLen) (_ : ∀ f ∈ l, FieldOk f) (m : List S) (_ : m.length ≤ maxLen) (_ : ∀ f ∈ m, FieldOk f) : ∃ k, gatelinelaw17_TlvJoins.f k l m = some true := by
  obtain ⟨K0, e0⟩ := big_ev l
  obtain ⟨K1, e1⟩ := big_ev m
  have jt : ∀ k, gatelinelaw17_TlvJoins.j0 (k + 1) l m true = some true := fun k => by rw [gatelinelaw17_TlvJoins.j0, if_pos rfl]
  unfold gatelinelaw17_TlvJoins.f
  by_cases c : bigR l = true
  · exact ⟨K0 + 1, by have f0 : gatelineref17_Big.f (K0 + 1) l = _ := e0 (K0 + 1) (by omega); rw [f0, Option.bind_some, if_pos c, jt]⟩
  by_cases c2 : bigR m = true
  · exact ⟨K0 + K1 + 1, by
      have f0 : gatelineref17_Big.f (K0 + K1 + 1) l = _ := e0 (K0 + K1 + 1) (by omega)
      have f1 : gatelineref17_Big.f (K0 + K1 + 1) m = _ := e1 (K0 + K1 + 1) (by omega)
      rw [f0, Option.bind_some, if_neg c, f1, Option.bind_some, c2, jt]⟩
  have hbl := (big_not l c).1
  have hbm := (big_not m c2).1
  obtain ⟨K2, e2⟩ := listed_ev
  obtain ⟨K3, e3⟩ := tput_ev l (by omega)
  obtain ⟨K4, e4⟩ := tput_ev m (by omega)
  obtain ⟨K5, e5⟩ := tput_ev (l ++ m) (by rw [List.length_append]; omega)
  obtain ⟨K6, e6⟩ := same_true (putRG (l ++ m)).1 (by have := putRG_length (l ++ m); omega)
  refine ⟨K0 + K1 + K2 + K3 + K4 + K5 + K6 + 3, ?_⟩
  generalize hk : K0 + K1 + K2 + K3 + K4 + K5 + K6 = k
  have f0 : gatelineref17_Big.f (k + 3) l = _ := e0 (k + 3) (by omega)
  have f1 : gatelineref17_Big.f (k + 3) m = _ := e1 (k + 3) (by omega)
  have f3 : tlv_Put.f (k + 2) l = _ := e3 (k + 2) (by omega)
  have f4 : tlv_Put.f (k + 2) m = _ := e4 (k + 2) (by omega)
  have f5 : tlv_Put.f (k + 2) (l ++ m) = _ := e5 (k + 2) (by omega)
  have f6 : gatelineref01_Same.f k (putRG (l ++ m)).1 (putRG (l ++ m)).1 = _ := e6 k (by omega)
  have n1 : ([] : List S).length + l.length < 4398046511104 := by simp; omega
  have n2 : l.length + m.length < 4398046511104 := by omega
  have c2' : bigR m = false := by simpa using c2
  rw [f0, Option.bind_some, if_neg c, f1, Option.bind_some, c2', gatelinelaw17_TlvJoins.j0, if_neg (by decide), f3, Option.bind_some, f4, Option.bind_some, Option.bind_some, if_pos n1, Option.bind_some, List.nil_append, if_pos n2, f5, Option.bind_some]
  clear f0 f1 f3 f4 f5 e0 e1 e3 e4 e5 e6 n1 n2
  have bad : isG 0 (l ++ m) = false → (putRG (l ++ m)).2 = 1 := fun h => by unfold putRG; rw [h, if_neg (by decide)]
  have q1 : (putRG (l ++ m)).2 = 1 → gatelinelaw17_TlvJoins.j1 (k + 2) l m (putRG l).1 (putRG m).1 (putRG (l ++ m)).1 (putRG (l ++ m)).2 true = some true := fun h => by
    rw [gatelinelaw17_TlvJoins.j1, if_pos rfl, e2 (k + 1) (by omega), Option.bind_some, if_pos rfl, h]
    rfl
  have q2 : (putRG (l ++ m)).2 = 1 → gatelinelaw17_TlvJoins.j2 (k + 1) (putRG l).1 (putRG m).1 (putRG (l ++ m)).1 (putRG (l ++ m)).2 true = some true := fun h => by
    rw [gatelinelaw17_TlvJoins.j2, if_pos rfl, e2 k (by omega), Option.bind_some, if_pos rfl, h]
    rfl
  by_cases hl : isG 0 l = true
  · have pl : putRG l = (putG l, 0) := by unfold putRG; rw [if_pos hl]
    rw [pl] at q1 q2 ⊢
    rw [if_pos rfl]
    by_cases hm : isG 0 m = true
    · have pm : putRG m = (putG m, 0) := by unfold putRG; rw [if_pos hm]
      rw [pm] at q1 q2 ⊢
      show gatelinelaw17_TlvJoins.j1 (k + 2) l m (putG l) (putG m) (putRG (l ++ m)).1 (putRG (l ++ m)).2 false = some true
      have ok : isG (lt 0 l) m = true → gatelinelaw17_TlvJoins.j2 (k + 1) (putG l) (putG m) (putRG (l ++ m)).1 (putRG (l ++ m)).2 false = some true := fun h => by
        have ha : isG 0 (l ++ m) = true := by rw [isG_append, hl, h]; rfl
        have pa : putRG (l ++ m) = (putG l ++ putG m, 0) := by unfold putRG; rw [if_pos ha, putG_append]
        have b1 := putG_length l (isG_small l hl).2
        have b2 := putG_length m (isG_small m hm).2
        rw [pa] at f6 ⊢
        have n1 : ([] : List Int).length + (putG l).length < 140737488355328 := by simp; omega
        have n2 : (putG l).length + (putG m).length < 140737488355328 := by omega
        rw [gatelinelaw17_TlvJoins.j2, if_neg (by decide), Option.bind_some, if_pos n1, Option.bind_some, List.nil_append, if_pos n2, e2 k (by omega), Option.bind_some, if_pos rfl, if_pos rfl, f6, Option.bind_some]
      have no : isG (lt 0 l) m = false → (putRG (l ++ m)).2 = 1 := fun h => bad (by rw [isG_append, h]; simp)
      rw [gatelinelaw17_TlvJoins.j1, if_neg (by decide)]
      by_cases z1 : 0 < l.length
      · rw [if_pos (by omega)]
        by_cases z2 : 0 < m.length
        · have e1 : wrap64 ((l.length : Int) - 1) = ((l.length - 1 : Nat) : Int) := by rw [w64 (by omega) (by omega)]; omega
          have r0 : rd_T40 m 0 = m[0] := rd_T m 0 z2
          rw [if_pos (by omega), if_pos (by omega), e1, if_pos (by omega), if_pos (by omega), r0, rd_T l (l.length - 1) (by omega), ← lt_last l 0 z1]
          by_cases z3 : (m[0]).f0 ≤ lt 0 l
          · rw [decide_eq_true z3]
            exact q2 (no (isG_not m _ z2 z3))
          · rw [decide_eq_false z3]
            rcases isG_next m (lt 0 l) hm with h | ⟨h, h2⟩
            · exact ok h
            · exact absurd h2 z3
        · rw [if_neg (by omega)]
          exact ok (by cases m with
            | nil => rfl
            | cons f m => simp at z2)
      · rw [if_neg (by omega)]
        exact ok (by cases l with
          | nil => exact hm
          | cons f l => simp at z1)
    · have pm : putRG m = ([], 1) := by unfold putRG; rw [if_neg hm]
      rw [pm] at q1 ⊢
      show gatelinelaw17_TlvJoins.j1 (k + 2) l m (putG l) [] (putRG (l ++ m)).1 (putRG (l ++ m)).2 true = some true
      refine q1 (bad ?_)
      rw [isG_append, hl]
      cases h : isG (lt 0 l) m
      · rfl
      · exact absurd (isG_low m _ 0 (lt_ge l 0 hl) h) hm
  · have pl : putRG l = ([], 1) := by unfold putRG; rw [if_neg hl]
    rw [pl] at q1 ⊢
    rw [if_neg (by decide)]
    exact q1 (bad (by rw [isG_append]; simp [hl]))
end Go.Proofs.Ytekgienbhpknlaa.Pure
