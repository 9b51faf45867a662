/- The walk of line.Zone. Condition: the station is an int. -/
import Derived.Test.YtdiijjdhofaodaaGTable
namespace Go.Proofs.Ytdiijjdhofaodaa.G
open Go Go.RowKit Go.Maps Go.Proofs.YtdiijjdhofaodaaW.PrintWords Go.Proofs.YtdiijjdhofaodaaW.PrintLast Go.Proofs.YtdiijjdhofaodaaW.PrintMore
def zoneR (s : Int) : Int × Int := if 0 ≤ s ∧ s < 40 then (zv s, 0) else (0, 1)
theorem at_int {c : Int} {v : Int} (h : (DataW.lit (H := Unit) (.int .i64 v)) = .lit (.int .i64 c)) : c = v := by injection h with h; injection h with _ h; exact h.symm
theorem zone_in (s : Int) (w : World) (h0 : 0 ≤ s) (h1 : s < 40) :
    Calls Try.prog 50 #[.int .i64 s] w fun e w' => e = .returned (.tuple #[.int .i64 (zv s), .int .i64 0]) ∧ Below w.heap.size w w' := by
  go_enter Try.func50, Try.ntmps50
  go_wp2_with (first
    | (go_at_call 66; refine (table_any _).mono ?_; rintro e w1 ⟨rfl, ⟨D, hown, hM, ha, hh⟩, hb⟩; have hx := hh s; rw [decide_eq_true (by omega)] at hx; have HA := Lib.hid ha; clear ha hh)
    | (at_lookup; refine wpList_lookup_own_ok_int _ rfl _ _ 74 rfl 3 3 .i64 law3 Try.underlying74 Try.underlying3 (zero3 _) w.heap.size 40 D rfl hown _ _ rfl (keyOf_int_mk Try.underlying3 (wf_of (by omega) (by omega))) ?_; intro c hat hwc; obtain rfl : c = zv s := at_int ((((HA.out s _).trans (if_pos (by omega))).symm).trans hat)))
  go_ret2
  exact ⟨rfl, hb⟩
theorem zone_out (s : Int) (w : World) (hw : -9223372036854775808 ≤ s ∧ s ≤ 9223372036854775807) (h0 : ¬ (0 ≤ s ∧ s < 40)) :
    Calls Try.prog 50 #[.int .i64 s] w fun e w' => e = .returned (.tuple #[.int .i64 0, .int .i64 1]) ∧ Below w.heap.size w w' := by
  have H0 := Lib.hid h0
  have HW := Lib.hid hw
  clear h0 hw
  go_enter Try.func50, Try.ntmps50
  go_wp2_with (first
    | (go_at_call 66; refine (table_any _).mono ?_; rintro e w1 ⟨rfl, ⟨D, hown, hM, ha, hh⟩, hb⟩; have hx : Maps.has D (.int .i64 s) = false := (hh s).trans (decide_eq_false (by have := H0.out; omega)); have HA := Lib.hid ha; clear ha hh)
    | (at_lookup; refine wpList_lookup_own_ok_int _ rfl _ _ 74 rfl 3 3 .i64 law3 Try.underlying74 Try.underlying3 (zero3 _) w.heap.size 40 D rfl hown _ _ rfl (keyOf_int_mk Try.underlying3 (wf_of HW.out.1 HW.out.2)) ?_; intro c hat hwc; clear hat hwc))
  go_ret2
  exact ⟨rfl, hb⟩
theorem zone_any (s : Int) (w : World) (hw : -9223372036854775808 ≤ s ∧ s ≤ 9223372036854775807) :
    Calls Try.prog 50 #[.int .i64 s] w fun e w' => e = .returned (.tuple #[.int .i64 (zoneR s).1, .int .i64 (zoneR s).2]) ∧ Below w.heap.size w w' := by
  unfold zoneR
  by_cases h : 0 ≤ s ∧ s < 40
  · rw [if_pos h]; exact zone_in s w h.1 h.2
  · rw [if_neg h]; exact zone_out s w hw h
end Go.Proofs.Ytdiijjdhofaodaa.G
