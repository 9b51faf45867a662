/- What the functions that this claim reaches do and answer: printed words and walks, walks by hand and plain laws, packed together, each with its own remark; printed rows are by the kit's print program, turned by this session. Conditions: those that each theorem states. -/
import Derived.WalkKit
import Derived.ProofKit
import Derived.OpenShut
import Derived.ShutString
import Derived.ChangeOld
import Derived.Below
import Derived.SizedLaws
import Derived.Carry
import Derived.Test.YtdiijjdhofaodaaKRDRS18
import Derived.Test.YtdiijjdhofaodaaKJeRS7
import Derived.Test.YtdiijjdhofaodaaKRARDRPRS12
import Derived.Test.YtdiijjdhofaodaaKRS19
import Derived.Test.YtdiijjdhofaodaaKRARDRPRS13
import Derived.Test.YtdiijjdhofaodaaKRS20
import Derived.Test.YtdiijjdhofaodaaRows
import Derived.Test.YtdiijjdhofaodaaKA0
import Derived.Test.YtdiijjdhofaodaaKRARDRPRS10
section
set_option linter.unusedSimpArgs false
namespace Go.Proofs.Ytdiijjdhofaodaa.Pure
open Go Go.RowKit Go.Proofs.Ytdiijjdhofaodaa.G Go.Proofs.Ytdiijjdhofaodaa.PL Go.Proofs.YtdiijjdhofaodaaW.PrintWords Go.Proofs.YtdiijjdhofaodaaW.PrintLast Go.Proofs.YtdiijjdhofaodaaW.PrintMore
theorem ruled_f : gatelinelaw25_ruled.f = some true := by decide +kernel
theorem line_f (s : Int) : line_Is.f s = some (lisB s) := by
  unfold line_Is.f lisB
  by_cases h : 0 ≤ s
  · simp [h]
  · simp [h]
theorem RulesStay (a0_0 a0_1 a0_2 a0_3 a0_4 a0_5 a0_6 a0_7 a0_8 a0_9 a0_10 a0_11 a0_12 : Int) (a0_13 : Bool) (_ : (Lit.int .i64 a0_0).wf = true) (_ : (Lit.int .i64 a0_1).wf = true) (_ : (Lit.int .i64 a0_2).wf = true) (_ : (Lit.int .i64 a0_3).wf = true) (_ : (Lit.int .i64 a0_4).wf = true) (_ : (Lit.int .i64 a0_5).wf = true) (_ : (Lit.int .i64 a0_6).wf = true) (_ : (Lit.int .i64 a0_7).wf = true) (_ : (Lit.int .i64 a0_8).wf = true) (_ : (Lit.int .i64 a0_9).wf = true) (_ : (Lit.int .i64 a0_10).wf = true) (_ : (Lit.int .i64 a0_11).wf = true) (_ : (Lit.int .i64 a0_12).wf = true) (a1_0 a1_1 a1_2 a1_3 a1_4 a1_5 a1_6 a1_7 a1_8 a1_9 a1_10 : Int) (_ : (Lit.int .i64 a1_0).wf = true) (_ : (Lit.int .i64 a1_1).wf = true) (_ : (Lit.int .i64 a1_2).wf = true) (_ : (Lit.int .i64 a1_3).wf = true) (_ : (Lit.int .i64 a1_4).wf = true) (_ : (Lit.int .i64 a1_5).wf = true) (_ : (Lit.int .i64 a1_6).wf = true) (_ : (Lit.int .i64 a1_7).wf = true) (_ : (Lit.int .i64 a1_8).wf = true) (_ : (Lit.int .i64 a1_9).wf = true) (_ : (Lit.int .i64 a1_10).wf = true) (a2 : Int) (_ : (Lit.int .i64 a2).wf = true) (a3 : Int) (_ : (Lit.int .i64 a3).wf = true) (a4 : Bool) : ∃ k, gatelinelaw25_RulesStay.f k a0_0 a0_1 a0_2 a0_3 a0_4 a0_5 a0_6 a0_7 a0_8 a0_9 a0_10 a0_11 a0_12 a0_13 a1_0 a1_1 a1_2 a1_3 a1_4 a1_5 a1_6 a1_7 a1_8 a1_9 a1_10 a2 a3 a4 = some true := by
  refine ⟨1, ?_⟩
  have e1 : rules_Pass.f a0_0 a0_1 a0_2 a0_3 a0_4 a0_5 a0_6 a0_7 a0_8 a0_9 a0_10 a0_11 a0_12 a0_13 a1_0 a1_1 a1_2 a1_3 a1_4 a1_5 a1_6 a1_7 a1_8 a1_9 a1_10 a2 a3 a4 = some (passR a0_0 a0_1 a0_2 a0_3 a0_4 a0_5 a0_6 a0_7 a0_8 a0_9 a0_10 a0_11 a0_12 a0_13 a1_0 a1_1 a1_2 a1_3 a1_4 a1_5 a1_6 a1_7 a1_8 a1_9 a1_10 a2 a3 a4) := rfl
  have e2 : ticket_Last.f a1_0 a1_1 a1_2 a1_3 a1_4 a1_5 a1_6 a1_7 a1_8 a1_9 a1_10 = some (lastR a1_0 a1_1 a1_2 a1_3 a1_4 a1_5 a1_6 a1_7 a1_8 a1_9 a1_10) := rfl
  have e3 : ledger_Is.f a0_0 a0_1 a0_2 a0_3 a0_4 a0_5 a0_6 a0_7 a0_8 a0_9 a0_10 a0_11 a0_12 a0_13 = some (jisB a0_0 a0_1 a0_2 a0_3 a0_4 a0_5 a0_6 a0_7 a0_8 a0_9 a0_10 a0_11 a0_12) := rfl
  have e4 : ∀ p q, journey_Is.f a1_0 a1_1 a1_2 a1_3 a1_4 a1_5 a1_6 a1_7 a1_8 a1_9 a1_10 p q = some (jisB a1_0 a1_1 a1_2 a1_3 a1_4 a1_5 a1_6 a1_7 a1_8 a1_9 a1_10 p q) := fun _ _ => rfl
  have hc := pass_code a0_0 a0_1 a0_2 a0_3 a0_4 a0_5 a0_6 a0_7 a0_8 a0_9 a0_10 a0_11 a0_12 a0_13 a1_0 a1_1 a1_2 a1_3 a1_4 a1_5 a1_6 a1_7 a1_8 a1_9 a1_10 a3 a4 a2
  unfold gatelinelaw25_RulesStay.f
  rw [e1, Option.bind_some]
  by_cases h : jisB a0_0 a0_1 a0_2 a0_3 a0_4 a0_5 a0_6 a0_7 a0_8 a0_9 a0_10 a0_11 a0_12 = true ∧ lisB a3 = true
  · rw [if_pos h] at hc
    rw [if_pos hc]
    obtain ⟨hA, hN⟩ := pass_facts a0_0 a0_1 a0_2 a0_3 a0_4 a0_5 a0_6 a0_7 a0_8 a0_9 a0_10 a0_11 a0_12 a0_13 a1_0 a1_1 a1_2 a1_3 a1_4 a1_5 a1_6 a1_7 a1_8 a1_9 a1_10 a3 a4 a2 h
    by_cases hR : (passR a0_0 a0_1 a0_2 a0_3 a0_4 a0_5 a0_6 a0_7 a0_8 a0_9 a0_10 a0_11 a0_12 a0_13 a1_0 a1_1 a1_2 a1_3 a1_4 a1_5 a1_6 a1_7 a1_8 a1_9 a1_10 a2 a3 a4).2.2.1 = 0
    · obtain ⟨rfl, hT, hD, hP⟩ := hA hR
      clear hA hN e1 e3
      rw [if_pos hR, e2, Option.bind_some, hP]
      rw [hP] at hc hR
      clear hP
      obtain ⟨rfl, rfl, rfl, rfl, rfl, rfl, rfl, rfl, rfl, rfl, rfl⟩ := sameT_eq hT
      have hst : 0 ≤ a3 ∧ a3 < 40 := by simpa [lisB] using h.2
      have hI := (jisB_facts h.1).1
      have hl : lastR a1_0 a1_1 a1_2 a1_3 a1_4 a1_5 a1_6 a1_7 a1_8 a1_9 a1_10 = (a1_7 + a1_8 - 1, 0) := by rw [lastR, if_pos hI]
      rw [hl, if_pos rfl, if_neg (by simp), if_neg (by decide), e4, Option.bind_some]
      cases a4
      · rw [if_neg (by decide)] at hc hR ⊢
        obtain ⟨_, _, _, hj, hz, _⟩ := enter_jis a1_0 a1_1 a1_2 a1_3 a1_4 a1_5 a1_6 a1_7 a1_8 a1_9 a1_10 a0_11 a0_12 a3 hc
        obtain ⟨hi, hn, _⟩ := hz hR
        rw [hj, gatelinelaw25_RulesStay.j0, if_neg (by decide), if_neg (by decide), ruled_f, Option.bind_some, if_pos rfl]
        have hday : a2 ≥ a1_7 ∧ a2 ≤ a1_7 + a1_8 - 1 := by
          unfold dayR at hD
          rw [if_pos hI, if_neg (by decide)] at hD
          by_cases h1 : a2 < a1_7
          · rw [if_pos h1] at hD
            exact absurd hD (by decide)
          · rw [if_neg h1] at hD
            by_cases h2 : a2 > a1_7 + a1_8 - 1
            · rw [if_pos h2] at hD
              exact absurd hD (by decide)
            · omega
        rw [if_pos hday.1, if_pos hday.2, if_pos hi, hn, w64 (by omega) (by omega), beq_self_eq_true]
      · rw [if_pos rfl] at hc hR ⊢
        obtain ⟨_, _, _, hj, hz, _⟩ := leave_jis a1_0 a1_1 a1_2 a1_3 a1_4 a1_5 a1_6 a1_7 a1_8 a1_9 a1_10 a0_11 a0_12 a3 hc
        obtain ⟨hi, hn, _⟩ := hz hR
        rw [hj, gatelinelaw25_RulesStay.j0, if_neg (by decide), if_pos rfl, ruled_f, Option.bind_some, if_pos rfl, if_neg hi, hn]
        rfl
    · have hn := hN hR
      rw [if_neg hR, ruled_f, Option.bind_some, if_pos rfl, hn.1, hn.2, beq_self_eq_true, beq_self_eq_true]
      rfl
  · rw [if_neg h] at hc
    rw [if_neg (by rw [hc]; decide), ruled_f, Option.bind_some, if_pos rfl, e3, Option.bind_some]
    cases hj : jisB a0_0 a0_1 a0_2 a0_3 a0_4 a0_5 a0_6 a0_7 a0_8 a0_9 a0_10 a0_11 a0_12
    · rw [if_neg (by decide)]
    · rw [if_pos rfl, line_f, Option.bind_some]
      cases hl : lisB a3
      · rfl
      · exact absurd ⟨hj, hl⟩ h
end Go.Proofs.Ytdiijjdhofaodaa.Pure
end
section
namespace Go.Proofs.Ytdiijjdhofaodaa.rulesStay
open Go.ChangeShapes Go.WideShapes Go.ChangeAt Go.RowKit Go.Proofs.YtdiijjdhofaodaaW.PrintWords
theorem own : ownKnob Try.prog.godebug = none := by kernel_rfl
theorem laidOut : laidOutB Try.prog = true := by kernel_rfl
set_option maxRecDepth 100000 in
theorem lifted (os : Os) (started : os.Started) (H : Type) (enc : TypeId × Value → H) :
    ReturnsInHanded {} Try.checked os 13 .any (Rows.rulesStaySpec.pre6 enc Try.prog Try.f13 Rows.rulesStayRow.domain false) (Rows.rulesStaySpec.post enc Try.prog Try.f13 false true false false) := by
  refine returnsInHanded_of_change_sized (C := Try.checked) own started (by kernel_rfl) Try.func13
    (ChangeSpec.witness6 (enc := enc) (C := Try.checked) false ⟨#[], #[.agg #[.int .i64 0, .int .i64 0, .int .i64 0, .int .i64 0, .int .i64 0, .int .i64 0, .int .i64 0, .int .i64 0, .int .i64 0, .int .i64 0, .int .i64 0, .int .i64 0, .int .i64 0, .bool false], .agg #[.int .i64 0, .int .i64 0, .int .i64 0, .int .i64 0, .int .i64 0, .int .i64 0, .int .i64 0, .int .i64 0, .int .i64 0, .int .i64 0, .int .i64 0], .int .i64 0, .int .i64 0, .bool false], []⟩ 8 (by kernel_rfl) (by kernel_rfl) (by kernel_rfl) (by kernel_rfl)) ?_
  intro W base args ds gs before hval0 hW hcnd hsz0 _
  have hval : ∀ (j : Nat) t v, Try.f13.params[j]? = some t → args[j]? = some v → Value.okWide Try.prog W .any base t v := hval0
  have hW' := hW
  obtain ⟨p, q, hA0, hV, rfl, hfz, hnd⟩ := hW
  have hA : DataW.TrodAll enc Try.prog W 0 (fun _ => true) true Try.f13.params.toList args.toList ds p := hA0
  rw [Try.params13] at hA hval
  obtain ⟨v0, vs0, d0, ds0, p0, q0, hargs, rfl, rfl, h0, r0⟩ := trodAll_cons hA
  obtain ⟨v1, vs1, d1, ds1, p1, q1, rfl, rfl, rfl, h1, r1⟩ := trodAll_cons r0
  obtain ⟨v2, vs2, d2, ds2, p2, q2, rfl, rfl, rfl, h2, r2⟩ := trodAll_cons r1
  obtain ⟨v3, vs3, d3, ds3, p3, q3, rfl, rfl, rfl, h3, r3⟩ := trodAll_cons r2
  obtain ⟨v4, vs4, d4, ds4, p4, q4, rfl, rfl, rfl, h4, r4⟩ := trodAll_cons r3
  obtain ⟨rfl, rfl, rfl⟩ := trodAll_nil r4
  obtain rfl : args = #[v0, v1, v2, v3, v4] := by cases args; simp_all
  obtain ⟨rfl, rfl⟩ := trodVars_none hV
  have k0 := h0
  have lt0 : ∀ x ∈ p0, x.block < W.heap.size := by obtain ⟨m, hm⟩ := k0; exact DataW.trod_lt m _ _ _ hm
  obtain ⟨a0_0, a0_1, a0_2, a0_3, a0_4, a0_5, a0_6, a0_7, a0_8, a0_9, a0_10, a0_11, a0_12, a0_13, rfl, wa0_0, wa0_1, wa0_2, wa0_3, wa0_4, wa0_5, wa0_6, wa0_7, wa0_8, wa0_9, wa0_10, wa0_11, wa0_12⟩ := G.open_entry Try.underlying48 rfl (by kernel_rfl) Try.underlying23 (by kernel_rfl) rfl (by kernel_rfl) Try.underlying25 (by kernel_rfl) rfl (by kernel_rfl) Try.underlying4 (by kernel_rfl) (hval 0 48 v0 rfl rfl) h0
  have k1 := h1
  have lt1 : ∀ x ∈ p1, x.block < W.heap.size := by obtain ⟨m, hm⟩ := k1; exact DataW.trod_lt m _ _ _ hm
  obtain ⟨a1_0, a1_1, a1_2, a1_3, a1_4, a1_5, a1_6, a1_7, a1_8, a1_9, a1_10, rfl, wa1_0, wa1_1, wa1_2, wa1_3, wa1_4, wa1_5, wa1_6, wa1_7, wa1_8, wa1_9, wa1_10⟩ := G.open_ticket Try.underlying23 (by kernel_rfl) (by kernel_rfl) (hval 1 23 v1 rfl rfl) h1
  obtain ⟨a2, rfl, rfl, rfl, w2⟩ := open_int Try.underlying3 (hval 2 3 v2 rfl rfl) h2
  obtain ⟨a3, rfl, rfl, rfl, w3⟩ := open_int Try.underlying3 (hval 3 3 v3 rfl rfl) h3
  obtain ⟨a4, rfl, rfl, rfl⟩ := open_bool Try.underlying4 (hval 4 4 v4 rfl rfl) h4
  clear hA0 hval0 hsz0
  obtain ⟨k, hk⟩ := Pure.RulesStay a0_0 a0_1 a0_2 a0_3 a0_4 a0_5 a0_6 a0_7 a0_8 a0_9 a0_10 a0_11 a0_12 a0_13 wa0_0 wa0_1 wa0_2 wa0_3 wa0_4 wa0_5 wa0_6 wa0_7 wa0_8 wa0_9 wa0_10 wa0_11 wa0_12 a1_0 a1_1 a1_2 a1_3 a1_4 a1_5 a1_6 a1_7 a1_8 a1_9 a1_10 wa1_0 wa1_1 wa1_2 wa1_3 wa1_4 wa1_5 wa1_6 wa1_7 wa1_8 wa1_9 wa1_10 a2 w2 a3 w3 a4
  refine (PL.gatelinelaw25_RulesStay.calls k a0_0 a0_1 a0_2 a0_3 a0_4 a0_5 a0_6 a0_7 a0_8 a0_9 a0_10 a0_11 a0_12 a0_13 a1_0 a1_1 a1_2 a1_3 a1_4 a1_5 a1_6 a1_7 a1_8 a1_9 a1_10 a2 a3 a4 true W  hk).mono fun e W' ⟨he, bel⟩ => ?_
  subst he
  exact ⟨_, rfl, _, _, _, [], _, [], hW', trodAll_mk1 (shut_bool Try.underlying4 _), (trodAll_cons_mk (Below.trod laidOut (by kernel_rfl) (of_decide_eq_true (by kernel_rfl)) k0 bel lt0) (trodAll_cons_mk (Below.trod laidOut (by kernel_rfl) (of_decide_eq_true (by kernel_rfl)) k1 bel lt1) (trodAll_cons_mk (shut_int Try.underlying3 w2) (trodAll_cons_mk (shut_int Try.underlying3 w3) (trodAll_cons_mk (shut_bool Try.underlying4 _) trodAll_mk0))))), rfl, bel.frame _, fun h => by cases h⟩
theorem over : Rows.rulesStayRow.holds Try.pinned (OpenSpec.ofChange Rows.rulesStaySpec) :=
  OpenClaim.holds_of_wide 13 Try.f13 rfl rfl rfl rfl rfl rfl rfl ⟨rfl, rfl, rfl, rfl, rfl⟩ rfl rfl rfl rfl rfl (by kernel_rfl) Try.func13 (by kernel_rfl)
    (of_decide_eq_true (by kernel_rfl)) (by unfold Func.isWrapper; first | (rw [if_pos (by decide +kernel)]; kernel_rfl) | (rw [if_neg (by decide +kernel)]; exact ⟨rfl, rfl⟩))
    (fun os started H enc _ => lifted os started H enc)
theorem proved : Rows.RulesStaySaid := over
#print axioms proved
end Go.Proofs.Ytdiijjdhofaodaa.rulesStay
namespace Go.Proofs.Ytdiijjdhofaodaa
/-- The row, under a short name, for the claim. -/
theorem rulesStay_holds : Rows.RulesStaySaid := rulesStay.proved
end Go.Proofs.Ytdiijjdhofaodaa
end
