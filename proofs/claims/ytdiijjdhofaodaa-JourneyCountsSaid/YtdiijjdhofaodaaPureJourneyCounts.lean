/- Nobody enters twice without leaving, and no ticket but a season enters more often than it has uses: for any ticket and any row of at most 200 ints (others are let go). -/
import Derived.Test.YtdiijjdhofaodaaPJourX
import Derived.Test.YtdiijjdhofaodaaPLyF
import Derived.Test.YtdiijjdhofaodaaPLyJ
namespace Go.Proofs.Ytdiijjdhofaodaa.Pure
open Go Go.RowKit Go.Proofs.Ytdiijjdhofaodaa.G Go.Proofs.Ytdiijjdhofaodaa.PL Go.Proofs.YtdiijjdhofaodaaW.PrintWords Go.Proofs.YtdiijjdhofaodaaW.PrintLast Go.Proofs.YtdiijjdhofaodaaW.PrintMore
theorem gone_f : gatelinelaw23_gone.f = some true := by decide +kernel
theorem w64_succ (i : Nat) (h : i ≤ 9223372036854775806) : wrap64 ((i : Int) + 1) = ((i + 1 : Nat) : Int) := by rw [w64 (by omega) (by omega)]; omega
def IsInts (l : List Int) : Prop := ∀ x ∈ l, -9223372036854775808 ≤ x ∧ x ≤ 9223372036854775807
theorem IsInts.getD {l : List Int} (h : IsInts l) (i : Nat) : -9223372036854775808 ≤ l.getD i 0 ∧ l.getD i 0 ≤ 9223372036854775807 := by
  rw [List.getD_eq_getElem?_getD]
  rcases Nat.lt_or_ge i l.length with hi | hi
  · rw [List.getElem?_eq_getElem hi]
    exact h _ (List.getElem_mem hi)
  · rw [List.getElem?_eq_none hi]
    simp
theorem counts_l0 (x0 x1 x2 x3 x4 x5 x6 x7 x8 x9 x10 : Int) (l : List Int) (hl : IsInts l) (hlen : l.length ≤ 200) (d : Nat) : ∀ (k idx : Nat) (n : Int) (inn : Bool) (jl ji : Int), l.length - idx = d → idx ≤ l.length → 3 * d + 1 ≤ k → jisB x0 x1 x2 x3 x4 x5 x6 x7 x8 x9 x10 jl ji = true → inn = (ji != 0) → 0 ≤ n → n ≤ idx → (x1 ≠ 3 → n ≤ x9 ∧ jl = x9 - n) →
    gatelinelaw23_JourneyCounts.l0 k l n inn (idx : Int) x0 x1 x2 x3 x4 x5 x6 x7 x8 x9 x10 jl ji = some true := by
  induction d with
  | zero =>
    intro k idx n inn jl ji hd hi hk hJ hin h0 hn h3
    obtain ⟨k, rfl⟩ : ∃ m, k = m + 1 := ⟨k - 1, by omega⟩
    have c : ¬ (idx : Int) < (l.length : Int) := by omega
    have hx := (jisB_facts hJ).2.2.2.2.2
    have hz := isB_uses (jisB_facts hJ).1
    rw [gatelinelaw23_JourneyCounts.l0, if_neg c, gone_f, Option.bind_some, if_pos rfl]
    by_cases c3 : x1 = 3
    · rw [if_pos c3, hin]
      simp
    · have := h3 c3
      rw [if_neg c3, if_pos this.1, w64 (x := x9 - n) (by omega) (by omega), if_pos this.2, hin]
      simp
  | succ d ih =>
    intro k idx n inn jl ji hd hi hk hJ hin h0 hn h3
    obtain ⟨k, rfl⟩ : ∃ m, k = m + 3 := ⟨k - 3, by omega⟩
    have c1 : (idx : Int) < (l.length : Int) := by omega
    have c2 : (0 : Int) ≤ (idx : Int) := by omega
    have hr : rd l (idx : Int) = l.getD idx 0 := by simp [rd]
    have hb := hl.getD idx
    have hs := w64_succ idx (by omega)
    have step := fun n inn jl ji => ih k (idx + 1) n inn jl ji (by omega) (by omega) (by omega)
    rw [gatelinelaw23_JourneyCounts.l0, if_pos c1, if_pos c2, hr]
    generalize hx : l.getD idx 0 = x at *
    have keep := step n inn jl ji hJ hin h0 (by omega) h3
    have no : x < 100 ∨ ¬ x < 200 → gatelinelaw23_JourneyCounts.j2 (k + 2) l n inn (idx : Int) x false x0 x1 x2 x3 x4 x5 x6 x7 x8 x9 x10 jl ji = some true := by
      intro _
      have e1 : journey_Enter.f x0 x1 x2 x3 x4 x5 x6 x7 x8 x9 x10 jl ji x = some (enterR x0 x1 x2 x3 x4 x5 x6 x7 x8 x9 x10 jl ji x) := if_pos hb
      have hE := enter_jis x0 x1 x2 x3 x4 x5 x6 x7 x8 x9 x10 jl ji x
      rw [gatelinelaw23_JourneyCounts.j2, if_neg (by decide), e1, Option.bind_some]
      generalize enterR x0 x1 x2 x3 x4 x5 x6 x7 x8 x9 x10 jl ji x = E at *
      have keep4 : gatelinelaw23_JourneyCounts.j4 (k + 1) l n inn (idx : Int) false x0 x1 x2 x3 x4 x5 x6 x7 x8 x9 x10 jl ji E.1 E.2.1 = some true := by
        rw [gatelinelaw23_JourneyCounts.j4, if_neg (by decide), hs]
        exact keep
      by_cases hc : E.2.2.2 = 0
      · rw [if_pos hc]
        obtain ⟨_, q1, q2, qJ, qA, _⟩ := hE hc
        by_cases hr0 : E.2.2.1 = 0
        · obtain ⟨a1, a2, a3⟩ := qA hr0
          have hinf : inn = false := by rw [hin, a1]; rfl
          rw [beq_iff_eq.2 hr0, gatelinelaw23_JourneyCounts.j4, if_pos rfl, hinf, if_neg (by decide), hs, w64 (x := n + 1) (by omega) (by omega)]
          refine step (n + 1) true E.1 E.2.1 qJ ?_ (by omega) (by omega) ?_
          · rw [a2]
            exact (bne_iff_ne.2 (by omega)).symm
          · intro c3
            have b1 := a3 c3
            have b2 := h3 c3
            omega
        · rw [beq_eq_false_iff_ne.2 hr0]
          exact keep4
      · rw [if_neg hc]
        exact keep4
    by_cases c3 : x ≥ 100
    · rw [if_pos c3]
      by_cases c4 : x < 200
      · have hw : -9223372036854775808 ≤ x - 100 ∧ x - 100 ≤ 9223372036854775807 := by omega
        have e1 : journey_Leave.f x0 x1 x2 x3 x4 x5 x6 x7 x8 x9 x10 jl ji (x - 100) = some (leaveR x0 x1 x2 x3 x4 x5 x6 x7 x8 x9 x10 jl ji (x - 100)) := if_pos hw
        have hL := leave_jis x0 x1 x2 x3 x4 x5 x6 x7 x8 x9 x10 jl ji (x - 100)
        rw [decide_eq_true c4, gatelinelaw23_JourneyCounts.j2, if_pos rfl, w64 (x := x - 100) (by omega) (by omega), e1, Option.bind_some]
        generalize leaveR x0 x1 x2 x3 x4 x5 x6 x7 x8 x9 x10 jl ji (x - 100) = F at *
        have keep3 : gatelinelaw23_JourneyCounts.j3 (k + 1) l n inn (idx : Int) false x0 x1 x2 x3 x4 x5 x6 x7 x8 x9 x10 jl ji F.1 F.2.1 = some true := by
          rw [gatelinelaw23_JourneyCounts.j3, if_neg (by decide), hs]
          exact keep
        by_cases hc : F.2.2.2 = 0
        · rw [if_pos hc]
          obtain ⟨_, _, _, qJ, qA, _⟩ := hL hc
          by_cases hr0 : F.2.2.1 = 0
          · obtain ⟨a1, a2, a3⟩ := qA hr0
            have hint : inn = true := by rw [hin]; exact bne_iff_ne.2 a1
            rw [beq_iff_eq.2 hr0, gatelinelaw23_JourneyCounts.j3, if_pos rfl, if_pos hint, hs]
            refine step n false F.1 F.2.1 qJ ?_ h0 (by omega) ?_
            · rw [a2]; rfl
            · intro c3
              rw [a3]
              exact h3 c3
          · rw [beq_eq_false_iff_ne.2 hr0]
            exact keep3
        · rw [if_neg hc]
          exact keep3
      · rw [decide_eq_false c4]
        exact no (.inr c4)
    · rw [if_neg c3]
      exact no (.inl (by omega))
theorem JourneyCounts (x0 x1 x2 x3 x4 x5 x6 x7 x8 x9 x10 : Int) (_ : (Lit.int .i64 x0).wf = true) (_ : (Lit.int .i64 x1).wf = true) (_ : (Lit.int .i64 x2).wf = true) (_ : (Lit.int .i64 x3).wf = true) (_ : (Lit.int .i64 x4).wf = true) (_ : (Lit.int .i64 x5).wf = true) (_ : (Lit.int .i64 x6).wf = true) (_ : (Lit.int .i64 x7).wf = true) (_ : (Lit.int .i64 x8).wf = true) (_ : (Lit.int .i64 x9).wf = true) (_ : (Lit.int .i64 x10).wf = true) (l : List Int) (_ : l.length ≤ maxLen) (hl : ∀ x ∈ l, (Lit.int .i64 x).wf = true) : ∃ k, gatelinelaw23_JourneyCounts.f k x0 x1 x2 x3 x4 x5 x6 x7 x8 x9 x10 l = some true := by
  have hI : IsInts l := fun x hx => i64_of (hl x hx)
  have e0 : ticket_Is.f x0 x1 x2 x3 x4 x5 x6 x7 x8 x9 x10 = some (isB x0 x1 x2 x3 x4 x5 x6 x7 x8 x9 x10) := rfl
  have jt : ∀ k a b, gatelinelaw23_JourneyCounts.j0 (k + 1) l true x0 x1 x2 x3 x4 x5 x6 x7 x8 x9 x10 a b = some true := fun k a b => by rw [gatelinelaw23_JourneyCounts.j0, if_pos rfl, gone_f, Option.bind_some]
  refine ⟨3 * l.length + 2, ?_⟩
  unfold gatelinelaw23_JourneyCounts.f journey_New.f
  rw [e0, Option.bind_some]
  cases hB : isB x0 x1 x2 x3 x4 x5 x6 x7 x8 x9 x10
  · rw [if_neg (by decide), Option.bind_some]
    by_cases c : (l.length : Int) > 200
    · rw [if_pos c, jt]
    · rw [if_neg c]
      exact jt (3 * l.length + 1) 0 0
  · rw [if_pos rfl, Option.bind_some]
    by_cases c : (l.length : Int) > 200
    · rw [if_pos c, jt]
    · have hu := isB_uses hB
      have hJ : jisB x0 x1 x2 x3 x4 x5 x6 x7 x8 x9 x10 x9 0 = true := by
        unfold jisB suitsB
        rw [hB, decide_eq_true hu.1, decide_eq_true (Int.le_refl x9)]
        simp
      rw [if_neg c]
      show gatelinelaw23_JourneyCounts.j0 (3 * l.length + 1 + 1) l false x0 x1 x2 x3 x4 x5 x6 x7 x8 x9 x10 x9 0 = some true
      rw [gatelinelaw23_JourneyCounts.j0, if_neg (by decide)]
      exact counts_l0 x0 x1 x2 x3 x4 x5 x6 x7 x8 x9 x10 l hI (by omega) l.length (3 * l.length + 1) 0 0 false x9 0 (by omega) (by omega) (by omega) hJ rfl (by omega) (by omega) (fun _ => ⟨by omega, by omega⟩)
end Go.Proofs.Ytdiijjdhofaodaa.Pure
