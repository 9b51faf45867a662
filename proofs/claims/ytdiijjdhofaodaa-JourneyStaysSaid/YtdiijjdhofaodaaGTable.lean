/- The walks of line.away and line.table: the map of all zones. -/
import Derived.Test.YtdiijjdhofaodaaProg
import Derived.WalkKit
import Derived.KernelRfl
import Derived.Maps.OwnSet
import Derived.Maps.OwnOps
import Derived.Test.YtdiijjdhofaodaaWMore
import Derived.Deep.Draws
import Derived.Lib.Hide
namespace Go.Proofs.Ytdiijjdhofaodaa.G
open Go Go.RowKit Go.Maps Go.Proofs.YtdiijjdhofaodaaW.PrintWords Go.Proofs.YtdiijjdhofaodaaW.PrintLast Go.Proofs.YtdiijjdhofaodaaW.PrintMore
attribute [local go_sem] max2_int min2_int max_two min_two max_three min_three max_four min_four

theorem law3 : Keyed Try.prog 3 := int_keyed Try.underlying3
theorem zero3 (w : World) : (zeroValue 3).run Try.prog w = .ok (.int .i64 0) w := by kernel_rfl
/-- The zone of a station. -/
def zv (s : Int) : Int := 1 + mx (s - 20) (20 - s) / 4
theorem mx_val (a b : Int) : mx a b = if a < b then b else a := rfl
/-- Block b is the map of the zones of the stations 0 to n - 1. -/
def TabOk (w : World) (b n : Nat) : Prop := ∃ D : DataW Unit, w.ownsMap Try.prog 3 (plainElem Try.prog 3) b n D ∧ Maps.IsMap D ∧
  (∀ (s : Int) (z : DataW Unit), D.atKey (.int .i64 s) z = if 0 ≤ s ∧ s < n then .lit (.int .i64 (zv s)) else z) ∧ ∀ s : Int, Maps.has D (.int .i64 s) = decide (0 ≤ s ∧ s < n)
theorem TabOk.start (w : World) : TabOk (w.alloc (.map #[] 0)) w.heap.size 0 := by
  refine ⟨.map [], World.ownsMap_made _ _ _ _, Maps.isMap_empty, fun s z => ?_, fun s => ?_⟩
  · rw [if_neg (by omega)]; rfl
  · rw [decide_eq_false (by omega)]; rfl
theorem wf_of {n : Int} (h0 : -9223372036854775808 ≤ n) (h1 : n ≤ 9223372036854775807) : (Lit.int .i64 n).wf = true := WalkArith.wf_i64 ⟨h0, h1⟩
theorem lit_ne {a b : Int} (h : a ≠ b) : (Lit.int .i64 a) ≠ .int .i64 b := fun e => h (by injection e)
theorem tab_step {D : DataW Unit} {n : Nat} (hM : Maps.IsMap D) (ha : ∀ (s : Int) (z : DataW Unit), D.atKey (.int .i64 s) z = if 0 ≤ s ∧ s < n then .lit (.int .i64 (zv s)) else z)
    (hh : ∀ s : Int, Maps.has D (.int .i64 s) = decide (0 ≤ s ∧ s < n)) : Maps.IsMap (D.put (.int .i64 (n : Int)) (.lit (.int .i64 (zv n)))) ∧
    (∀ (s : Int) (z : DataW Unit), (D.put (.int .i64 (n : Int)) (.lit (.int .i64 (zv n)))).atKey (.int .i64 s) z = if 0 ≤ s ∧ s < ((n + 1 : Nat) : Int) then .lit (.int .i64 (zv s)) else z) ∧
    ∀ s : Int, Maps.has (D.put (.int .i64 (n : Int)) (.lit (.int .i64 (zv n)))) (.int .i64 s) = decide (0 ≤ s ∧ s < ((n + 1 : Nat) : Int)) := by
  refine ⟨hM.put _ _, fun s z => ?_, fun s => ?_⟩
  · by_cases h : s = n
    · subst h
      rw [Maps.atKey_put_same hM (show WideAt.IsKeyLit (.int .i64 (n : Int)) from trivial), if_pos (by omega)]
    · rw [Maps.atKey_put_other (lit_ne h), ha]
      by_cases h2 : 0 ≤ s ∧ s < n
      · rw [if_pos h2, if_pos (by omega)]
      · rw [if_neg h2, if_neg (by omega)]
  · by_cases h : s = n
    · subst h
      rw [Maps.has_put_same hM (show WideAt.IsKeyLit (.int .i64 (n : Int)) from trivial), decide_eq_true (by omega)]
    · rw [Maps.has_put_other (lit_ne h), hh]
      by_cases h2 : 0 ≤ s ∧ s < n
      · rw [decide_eq_true h2, decide_eq_true (by omega)]
      · rw [decide_eq_false h2, decide_eq_false (by omega)]
theorem away_any (s : Int) (w : World) (h0 : 0 ≤ s) (h1 : s ≤ 40) : Calls Try.prog 74 #[.int .i64 s] w fun e w' => e = .returned (.int .i64 (mx (s - 20) (20 - s))) ∧ w = w' := by
  by_cases h : s - 20 < 20 - s
  · go_enter Try.func74, Try.ntmps74
    go_wp2
    go_ret
    exact ⟨by rw [mx_val, if_pos h]; rfl, rfl⟩
  · go_enter Try.func74, Try.ntmps74
    go_wp2
    go_ret
    exact ⟨by rw [mx_val, if_neg (by omega)]; rfl, rfl⟩
theorem table_any (w : World) : Calls Try.prog 66 #[] w fun e w' => e = .returned (.map (some w.heap.size)) ∧ TabOk w' w.heap.size 40 ∧ Below w.heap.size w w' := by
  have hmm := @run_makeMap Try.prog
  go_enter Try.func66, Try.ntmps66
  go_wp2
  go_loopw [4] (fun i wr => ∃ k : Nat, k ≤ 40 ∧ i = .int .i64 k ∧ TabOk wr w.heap.size k ∧ Below w.heap.size w wr) (fun i _ => 40 - (intOf i).toNat)
  case atStart => exact ⟨0, by omega, rfl, TabOk.start w, (Below.refl _ _).alloc (Nat.le_refl _) _⟩
  case round =>
    obtain ⟨k, hk, rfl, ⟨D, hown, hM, ha, hh⟩, hnx⟩ := hrel
    have HA := Lib.hid ha
    have HH := Lib.hid hh
    clear ha hh
    by_cases hlt : k < 40
    · have hm0 : 0 ≤ mx ((k : Int) - 20) (20 - k) := by rw [mx_val]; split <;> omega
      have hm1 : mx ((k : Int) - 20) (20 - k) ≤ 20 := by rw [mx_val]; split <;> omega
      go_wp2_with (first
        | (go_at_call 74; refine (away_any _ _ (by omega) (by omega)).mono ?_; rintro e w' ⟨rfl, rfl⟩)
        | (at_mapUpdate; refine wpList_mapUpdate_own _ rfl _ _ _ 74 rfl 3 3 law3 Try.underlying74 _ w.heap.size k D rfl hown (by unfold maxLen; omega) _ _ _ rfl rfl (keyOf_int_mk Try.underlying3 (wf_of (by omega) (by omega))) _ [] (plainElem_int Try.underlying3 (wf_of (by omega) (by omega))) ?_; intro w1 hown1 hgrow1))
      go_roundw
      case rel =>
        obtain ⟨s1, s2, s3⟩ := tab_step hM HA.out HH.out
        exact ⟨k + 1, by omega, by go_num, ⟨_, hown1, s1, s2, s3⟩, hnx.grown hgrow1 hnx.size (fun j hj => by cases hj; exact Nat.le_refl _)⟩
      case measure => simp [intOf]; omega
    · have hk40 : k = 40 := by omega
      subst hk40
      go_wp2
      go_ret
      exact ⟨rfl, ⟨D, hown, hM, HA.out, HH.out⟩, hnx⟩
end Go.Proofs.Ytdiijjdhofaodaa.G
