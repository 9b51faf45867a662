/- The row of JourneyCounts: a form of the kit's print program, with structs by value. -/
import Derived.Test.YtdiijjdhofaodaaRows
import Derived.Test.YtdiijjdhofaodaaGOpenJ
import Derived.Test.YtdiijjdhofaodaaPureJourneyCounts
import Derived.Test.YtdiijjdhofaodaaPLyJ
import Derived.WalkKit
import Derived.ProofKit
import Derived.OpenShut
import Derived.ShutString
import Derived.ChangeOld
import Derived.Below
import Derived.SizedLaws
import Derived.Carry
namespace Go.Proofs.Ytdiijjdhofaodaa.journeyCounts
open Go.ChangeShapes Go.WideShapes Go.ChangeAt Go.RowKit Go.Proofs.YtdiijjdhofaodaaW.PrintWords
theorem own : ownKnob Try.prog.godebug = none := by kernel_rfl
theorem laidOut : laidOutB Try.prog = true := by kernel_rfl
theorem open_row {H : Type} {enc : TypeId × Value → H} {w : World} {base : Nat} {spare : Nat → Bool} {held : Bool} {fuel : Nat} {A : Option Addr} {len cap : Nat} {x : DataW H × List MemPlace} (h : DataW.trod enc Try.prog w base spare held fuel 35 (Value.slice A len cap).cells.toList = some x) :
    ∃ l : List Int, len = l.length ∧ len ≤ cap ∧ len ≤ maxLen ∧ Kd.C (Kd.int .i64) w A len l ∧ ∀ x ∈ l, (Lit.int .i64 x).wf = true := by
  rcases open_ints Try.underlying35 Try.underlying3 (by kernel_rfl) h with ⟨hcs, _⟩ | ⟨a, l, c, zs, hcs, _, hl, hmx, hz, _, hcell, hwz⟩
  · simp [Value.cells] at hcs
    obtain ⟨rfl, rfl, rfl⟩ := hcs
    exact ⟨[], rfl, Nat.le_refl _, by simp, Kd.C_nil _ _, fun x hx => by cases hx⟩
  · simp [Value.cells] at hcs
    obtain ⟨rfl, rfl, rfl⟩ := hcs
    have hzl : len ≤ zs.length := by rw [hz]; split <;> omega
    have hll : (zs.take len).length = len := by rw [List.length_take]; omega
    refine ⟨zs.take len, hll.symm, hl, by omega, Kd.C_of_reads (d := (0 : Int)) (h1 := fun _ => rfl) ⟨hll, by unfold maxLen at hmx; omega, fun _ => ⟨a, rfl, fun i hi => ?_⟩⟩, fun x hx => hwz x (List.mem_of_mem_take hx)⟩
    rw [hcell i (by omega)]
    simp [List.getD_eq_getElem?_getD, hi]
set_option maxRecDepth 100000 in
theorem lifted (os : Os) (started : os.Started) (H : Type) (enc : TypeId × Value → H) :
    ReturnsInHanded {} Try.checked os 6 .any (Rows.journeyCountsSpec.pre6 enc Try.prog Try.f6 Rows.journeyCountsRow.domain false) (Rows.journeyCountsSpec.post enc Try.prog Try.f6 false true false false) := by
  refine returnsInHanded_of_change_sized (C := Try.checked) own started (by kernel_rfl) Try.func6
    (ChangeSpec.witness6 (enc := enc) (C := Try.checked) false ⟨#[], #[.agg #[.int .i64 0, .int .i64 0, .int .i64 0, .int .i64 0, .int .i64 0, .int .i64 0, .int .i64 0, .int .i64 0, .int .i64 0, .int .i64 0, .int .i64 0], .slice none 0 0], []⟩ 8 (by kernel_rfl) (by kernel_rfl) (by kernel_rfl) (by kernel_rfl)) ?_
  intro W base args ds gs before hval0 hW hcnd hsz0 _
  have hval : ∀ (j : Nat) t v, Try.f6.params[j]? = some t → args[j]? = some v → Value.okWide Try.prog W .any base t v := hval0
  have hW' := hW
  obtain ⟨p, q, hA0, hV, rfl, hfz, hnd⟩ := hW
  have hA : DataW.TrodAll enc Try.prog W 0 (fun _ => true) true Try.f6.params.toList args.toList ds p := hA0
  rw [Try.params6] at hA hval
  obtain ⟨v0, vs0, d0, ds0, p0, q0, hargs, rfl, rfl, h0, r0⟩ := trodAll_cons hA
  obtain ⟨v1, vs1, d1, ds1, p1, q1, rfl, rfl, rfl, h1, r1⟩ := trodAll_cons r0
  obtain ⟨rfl, rfl, rfl⟩ := trodAll_nil r1
  obtain rfl : args = #[v0, v1] := by cases args; simp_all
  obtain ⟨rfl, rfl⟩ := trodVars_none hV
  have k0 := h0
  have lt0 : ∀ x ∈ p0, x.block < W.heap.size := by obtain ⟨m, hm⟩ := k0; exact DataW.trod_lt m _ _ _ hm
  obtain ⟨a0_0, a0_1, a0_2, a0_3, a0_4, a0_5, a0_6, a0_7, a0_8, a0_9, a0_10, rfl, wa0_0, wa0_1, wa0_2, wa0_3, wa0_4, wa0_5, wa0_6, wa0_7, wa0_8, wa0_9, wa0_10⟩ := G.open_ticket Try.underlying23 (by kernel_rfl) (by kernel_rfl) (hval 0 23 v0 rfl rfl) h0
  obtain ⟨a1, len1, cap1, rfl⟩ := okWide_slice Try.underlying35 (hval 1 35 v1 rfl rfl)
  have k1 := h1
  have lt1 : ∀ x ∈ p1, x.block < W.heap.size := by obtain ⟨m, hm⟩ := k1; exact DataW.trod_lt m _ _ _ hm
  obtain ⟨f1_, hf1_⟩ := h1
  obtain ⟨l1, e1, c1, m1, R1, w1⟩ := open_row hf1_
  subst e1
  clear hA0 hval0 hsz0
  obtain ⟨k, hk⟩ := Pure.JourneyCounts a0_0 a0_1 a0_2 a0_3 a0_4 a0_5 a0_6 a0_7 a0_8 a0_9 a0_10 wa0_0 wa0_1 wa0_2 wa0_3 wa0_4 wa0_5 wa0_6 wa0_7 wa0_8 wa0_9 wa0_10 l1 m1 w1
  refine (PL.gatelinelaw23_JourneyCounts.calls k a0_0 a0_1 a0_2 a0_3 a0_4 a0_5 a0_6 a0_7 a0_8 a0_9 a0_10 _ _ l1 true W R1 c1 hk).mono fun e W' ⟨he, bel⟩ => ?_
  subst he
  exact ⟨_, rfl, _, _, _, [], _, [], hW', trodAll_mk1 (shut_bool Try.underlying4 _), (trodAll_cons_mk (Below.trod laidOut (by kernel_rfl) (of_decide_eq_true (by kernel_rfl)) k0 bel lt0) (trodAll_cons_mk (Below.trod laidOut (by kernel_rfl) (of_decide_eq_true (by kernel_rfl)) k1 bel lt1) trodAll_mk0)), rfl, bel.frame _, fun h => by cases h⟩
theorem over : Rows.journeyCountsRow.holds Try.pinned (OpenSpec.ofChange Rows.journeyCountsSpec) :=
  OpenClaim.holds_of_wide 6 Try.f6 rfl rfl rfl rfl rfl rfl rfl ⟨rfl, rfl, rfl, rfl, rfl⟩ rfl rfl rfl rfl rfl (by kernel_rfl) Try.func6 (by kernel_rfl)
    (of_decide_eq_true (by kernel_rfl)) (by unfold Func.isWrapper; first | (rw [if_pos (by decide +kernel)]; kernel_rfl) | (rw [if_neg (by decide +kernel)]; exact ⟨rfl, rfl⟩))
    (fun os started H enc _ => lifted os started H enc)
theorem proved : Rows.JourneyCountsSaid := over
#print axioms proved
end Go.Proofs.Ytdiijjdhofaodaa.journeyCounts
namespace Go.Proofs.Ytdiijjdhofaodaa
/-- The row, under a short name, for the claim. -/
theorem journeyCounts_holds : Rows.JourneyCountsSaid := journeyCounts.proved
end Go.Proofs.Ytdiijjdhofaodaa
