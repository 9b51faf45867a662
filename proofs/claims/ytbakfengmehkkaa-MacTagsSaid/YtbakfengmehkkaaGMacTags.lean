/- The walk of the law MacTags. -/
import Derived.Test.YtbakfengmehkkaaGTagged
namespace Go.Proofs.Ytbakfengmehkkaa.G
open Go Go.RowKit Go.Proofs.Ytbakfengmehkkaa.PL Go.Proofs.Ytbakfengmehkkaa.Q Go.Proofs.YtbakfengmehkkaaW.PrintWords Go.Proofs.YtbakfengmehkkaaW.PrintLast Go.Proofs.YtbakfengmehkkaaW.PrintMore
set_option maxRecDepth 100000 in
set_option maxHeartbeats 4000000 in
theorem macTags_any (A0 : Option Addr) (c0 : Nat) (l0 : List Int) (A1 : Option Addr) (c1 : Nat) (l1 : List Int) (w : World) (hr0 : Kd.C (Kd.int .u8) w A0 l0.length l0) (hc0 : l0.length ≤ c0) (hb0 : IsBytes l0) (hr1 : Kd.C (Kd.int .u8) w A1 l1.length l1) (hc1 : l1.length ≤ c1) (hb1 : IsBytes l1) :
    Calls Try.prog 8 #[.slice A0 l0.length c0, .slice A1 l1.length c1] w fun e w' => e = .returned (.bool true) ∧ Below w.heap.size w w' := by
  have HR := Aside0.mk hr0
  have HC := Aside0.mk hc0
  have HBY := Aside0.mk hb0
  have HR1 := Aside0.mk hr1
  have HC1 := Aside0.mk hc1
  have HBY1 := Aside0.mk hb1
  clear hr0 hc0 hb0 hr1 hc1 hb1
  go_enter Try.func8, Try.ntmps8
  by_cases h0 : (l0.length : Int) > 1000
  · go_wp2
    go_ret
    exact ⟨rfl, Below.refl _ _⟩
  by_cases h1 : (l1.length : Int) > 2000
  · go_wp2
    go_ret
    exact ⟨rfl, Below.refl _ _⟩
  have HL : Aside0 (l0.length ≤ 1000) := ⟨by omega⟩
  have HL1 : Aside0 (l1.length ≤ 2000) := ⟨by omega⟩
  have e32 := fun d W => eq32 d W (tagR l0 l1) (tagR_len _ _)
  have e64 := fun d W => eq64 d W (blkL l0) (blkL_len _)
  go_wp2_with (first
    | (go_at_call 22; refine (tagged_calls _).mono ?_; rintro e w1 ⟨rfl, hb⟩; have S1 := Aside0.mk hb; clear hb)
    | (go_at_call 23; refine (mtag_any A0 c0 l0 A1 c1 l1 _ (Kd.C_below HR.out S1.out) HC.out (by have := HL.out; omega) HBY.out (Kd.C_below HR1.out S1.out) HC1.out (by have := HL1.out; omega) HBY1.out).mono ?_; rintro e w2 ⟨rfl, hb⟩; have S2 := Aside0.mk (below_step S1.out hb); clear hb S1)
    | (go_at_call 24; refine (mrtag_any A0 c0 l0 A1 c1 l1 _ (Kd.C_below HR.out S2.out) HC.out (by have := HL.out; omega) HBY.out (Kd.C_below HR1.out S2.out) HC1.out (by have := HL1.out; omega) HBY1.out).mono ?_; rintro e w3 ⟨rfl, hb⟩; have S3 := Aside0.mk (below_step S2.out hb); clear hb S2)
    | (go_at_call 25; refine (mblock_any A0 c0 l0 _ (Kd.C_below HR.out S3.out) HC.out (by have := HL.out; omega) HBY.out).mono ?_; rintro e w4 ⟨rfl, hb⟩; have S4 := Aside0.mk (below_step S3.out hb); clear hb S3)
    | (go_at_call 26; refine (mrblock_any A0 c0 l0 _ (Kd.C_below HR.out S4.out) HC.out (by have := HL.out; omega) HBY.out).mono ?_; rintro e w5 ⟨rfl, hb⟩; have S5 := Aside0.mk (below_step S4.out hb); clear hb S4))
  go_ret
  exact ⟨rfl, S5.out⟩
end Go.Proofs.Ytbakfengmehkkaa.G
