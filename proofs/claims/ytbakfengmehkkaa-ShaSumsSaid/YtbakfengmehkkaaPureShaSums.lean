/- The walk of the law ShaSums (written by gen_shasums.py). -/
import Derived.Test.YtbakfengmehkkaaGSummed
import Derived.Test.YtbakfengmehkkaaGRefSum
namespace Go.Proofs.Ytbakfengmehkkaa.G
open Go Go.RowKit Go.Proofs.Ytbakfengmehkkaa.PL Go.Proofs.Ytbakfengmehkkaa.Q Go.Proofs.YtbakfengmehkkaaW.PrintWords Go.Proofs.YtbakfengmehkkaaW.PrintLast Go.Proofs.YtbakfengmehkkaaW.PrintMore
set_option maxRecDepth 100000 in
set_option maxHeartbeats 2000000 in
theorem shaSums_any (A0 : Option Addr) (c0 : Nat) (l0 : List Int) (w : World) (hr : Kd.C (Kd.int .u8) w A0 l0.length l0) (hc : l0.length ≤ c0) (hb : IsBytes l0) :
    Calls Try.prog 5 #[.slice A0 l0.length c0] w fun e w' => e = .returned (.bool true) ∧ Below w.heap.size w w' := by
  have HR := Aside0.mk hr
  have HC := Aside0.mk hc
  have HBY := Aside0.mk hb
  clear hr hc hb
  by_cases hl : (l0.length : Int) > 2000
  · go_enter Try.func5, Try.ntmps5
    go_wp2
    go_ret
    exact ⟨rfl, Below.refl _ _⟩
  · have HL : Aside0 (l0.length ≤ 2000) := ⟨by omega⟩
    obtain ⟨R, hR⟩ : ∃ R, R = sumR l0 := ⟨_, rfl⟩
    have HRL : R.length = 32 := by rw [hR]; exact sumR_len l0
    have heq := fun d W => eq32 d W R HRL
    have HRR := Aside0.mk hR
    clear HRL hR
    go_enter Try.func5, Try.ntmps5
    go_wp2_with (first
      | (go_at_call 11; refine (summed_calls _).mono ?_; rintro e w1 ⟨rfl, hb1⟩; have B1 := Aside0.mk hb1; clear hb1)
      | (go_at_call 17; refine (sum_any A0 c0 l0 _ (Kd.C_below HR.out B1.out) HC.out (by have := HL.out; omega) HBY.out).mono ?_; rintro e w2 ⟨rfl, hb2⟩; have B2 := Aside0.mk (below_step B1.out hb2); rw [← HRR.out]; clear hb2)
      | (go_at_call 18; refine (rsum_any A0 c0 l0 _ (Kd.C_below HR.out B2.out) HC.out (by have := HL.out; omega) HBY.out).mono ?_; rintro e w3 ⟨rfl, hb3⟩; have B3 := Aside0.mk (below_step B2.out hb3); rw [← HRR.out]; clear hb3))
    go_ret
    exact ⟨rfl, B3.out⟩
end Go.Proofs.Ytbakfengmehkkaa.G
namespace Go.Proofs.Ytbakfengmehkkaa.Pure
open Go Go.RowKit Go.Proofs.Ytbakfengmehkkaa.Q Go.Proofs.Ytbakfengmehkkaa.G Go.Proofs.YtbakfengmehkkaaW.PrintWords
def SumsFact (l : List Int) (r : Bool) : Prop := IsBytes l ∧ r = true
theorem ShaSums (l : List Int) (_ : l.length ≤ maxLen) (wl : ∀ x ∈ l, (Lit.int .u8 x).wf = true) : ∃ _k : Nat, SumsFact l true := ⟨0, isBytes_of wl, rfl⟩
theorem ShaSums_walk (_k : Nat) (A : Option Addr) (c : Nat) (l : List Int) (r : Bool) (w : World) (hr : Kd.C (Kd.int .u8) w A l.length l) (hc : l.length ≤ c) (h : SumsFact l r) :
    Calls Try.prog 5 #[.slice A l.length c] w fun e w' => e = .returned (.bool r) ∧ Below w.heap.size w w' := by
  obtain ⟨h1, rfl⟩ := h
  exact shaSums_any A c l w hr hc h1
end Go.Proofs.Ytbakfengmehkkaa.Pure
