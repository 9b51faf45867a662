/- Plain laws of layer 9: what the program and the reference compute of a ticket. -/
import Derived.Test.YtdiijjdhofaodaaP64
import Derived.Test.YtdiijjdhofaodaaPLyA
import Derived.Test.YtdiijjdhofaodaaPLyB
namespace Go.Proofs.Ytdiijjdhofaodaa.Pure
open Go Go.RowKit Go.Proofs.Ytdiijjdhofaodaa.G Go.Proofs.Ytdiijjdhofaodaa.PL Go.Proofs.YtdiijjdhofaodaaW.PrintWords Go.Proofs.YtdiijjdhofaodaaW.PrintLast Go.Proofs.YtdiijjdhofaodaaW.PrintMore
theorem mn_def (a b : Int) : mn a b = if b < a then b else a := rfl
theorem mx_def (a b : Int) : mx a b = if a < b then b else a := rfl
theorem zv_def (s : Int) : zv s = 1 + mx (s - 20) (20 - s) / 4 := rfl
theorem refLis_f (s : Int) : gatelineref07_Is.f s = some (lisB s) := by
  unfold gatelineref07_Is.f lisB
  by_cases h : s ≥ 0
  · rw [if_pos h]
    congr 1
    exact decide_eq_decide.2 (by omega)
  · rw [if_neg h]
    congr 1
    exact (decide_eq_false (by omega)).symm
def placeB (x1 x2 x3 : Int) : Bool := if x1 = 3 then zonesB x2 x3 else wayB x2 x3
def plainP (x0 x1 x4 x5 x6 x7 x8 x10 : Int) : Prop := 1 ≤ x0 ∧ x0 ≤ 1099511627776 ∧ 1 ≤ x1 ∧ x1 ≤ 4 ∧ 1 ≤ x4 ∧ x4 ≤ 2 ∧ 0 ≤ x5 ∧ x5 ≤ 3 ∧ 0 ≤ x6 ∧ x6 ≤ 999 ∧ 0 ≤ x7 ∧ x7 ≤ 99999 ∧ 1 ≤ x8 ∧ x8 ≤ 999 ∧ x7 + x8 ≤ 100000 ∧ 0 ≤ x10 ∧ x10 ≤ 9
theorem isB_iff (x0 x1 x2 x3 x4 x5 x6 x7 x8 x9 x10 : Int) : isB x0 x1 x2 x3 x4 x5 x6 x7 x8 x9 x10 = true ↔ plainP x0 x1 x4 x5 x6 x7 x8 x10 ∧ placeB x1 x2 x3 = true ∧ usesB x1 x9 = true := by
  unfold isB plainP placeB
  simp only [betw, Bool.and_eq_true, decide_eq_true_eq]
  constructor
  · rintro ⟨⟨⟨⟨⟨⟨⟨⟨⟨⟨h0, h1⟩, h2⟩, h3⟩, h4⟩, h5⟩, h6⟩, h7⟩, h8⟩, h9⟩, h10⟩
    exact ⟨by omega, h9, h10⟩
  · rintro ⟨h, h9, h10⟩
    exact ⟨⟨⟨⟨⟨⟨⟨⟨⟨⟨by omega, by omega⟩, by omega⟩, by omega⟩, by omega⟩, by omega⟩, by omega⟩, by omega⟩, by omega⟩, h9⟩, h10⟩
theorem isB_no (x0 x1 x2 x3 x4 x5 x6 x7 x8 x9 x10 : Int) (h : ¬ plainP x0 x1 x4 x5 x6 x7 x8 x10) : isB x0 x1 x2 x3 x4 x5 x6 x7 x8 x9 x10 = false := Bool.eq_false_iff.2 fun hh => h ((isB_iff x0 x1 x2 x3 x4 x5 x6 x7 x8 x9 x10).1 hh).1
theorem isB_plain (x0 x1 x2 x3 x4 x5 x6 x7 x8 x9 x10 : Int) (h : plainP x0 x1 x4 x5 x6 x7 x8 x10) : isB x0 x1 x2 x3 x4 x5 x6 x7 x8 x9 x10 = (placeB x1 x2 x3 && usesB x1 x9) := by
  rw [Bool.eq_iff_iff, isB_iff, Bool.and_eq_true]
  exact ⟨fun hh => hh.2, fun hh => ⟨h, hh⟩⟩
theorem place_f (x0 x1 x2 x3 x4 x5 x6 x7 x8 x9 x10 : Int) : gatelineref09_place.f x0 x1 x2 x3 x4 x5 x6 x7 x8 x9 x10 = some (placeB x1 x2 x3) := by
  unfold gatelineref09_place.f placeB zonesB wayB
  by_cases h : x1 = 3
  · rw [if_pos h, if_pos h]
    by_cases h1 : x2 ≥ 1
    · rw [if_pos h1]
      by_cases h2 : x2 ≤ x3
      · rw [if_pos h2]
        congr 1
        rw [Bool.eq_iff_iff]
        simp only [betw, Bool.and_eq_true, decide_eq_true_eq]
        omega
      · rw [if_neg h2]
        congr 1
        symm
        rw [Bool.eq_false_iff]
        simp only [betw, ne_eq, Bool.and_eq_true, decide_eq_true_eq]
        omega
    · rw [if_neg h1]
      congr 1
      symm
      rw [Bool.eq_false_iff]
      simp only [betw, ne_eq, Bool.and_eq_true, decide_eq_true_eq]
      omega
  · rw [if_neg h, if_neg h, refLis_f, Option.bind_some, refLis_f]
    cases lisB x2 <;> cases lisB x3 <;> rfl
theorem uses_f (x0 x1 x2 x3 x4 x5 x6 x7 x8 x9 x10 : Int) (h1 : 1 ≤ x1) (h4 : x1 ≤ 4) : gatelineref09_uses.f x0 x1 x2 x3 x4 x5 x6 x7 x8 x9 x10 = some (usesB x1 x9) := by
  unfold gatelineref09_uses.f usesB
  rcases (by omega : x1 = 1 ∨ x1 = 2 ∨ x1 = 3 ∨ x1 = 4) with rfl | rfl | rfl | rfl
  · rfl
  · rfl
  · rfl
  · rw [if_pos rfl]
    show (if x9 ≥ 2 then some (decide (x9 ≤ 20)) else some false) = some (betw x9 2 20)
    by_cases h : x9 ≥ 2
    · rw [if_pos h]
      congr 1
      rw [Bool.eq_iff_iff]
      simp only [betw, decide_eq_true_eq]
      omega
    · rw [if_neg h]
      congr 1
      symm
      rw [Bool.eq_false_iff]
      simp only [betw, ne_eq, decide_eq_true_eq]
      omega
theorem refIs_j1 (k : Nat) (x0 x1 x2 x3 x4 x5 x6 x7 x8 x9 x10 : Int) : gatelineref09_Is.j1 (k + 1) true x0 x1 x2 x3 x4 x5 x6 x7 x8 x9 x10 = some false := by
  rw [gatelineref09_Is.j1, if_pos rfl]
theorem refIs_j0 (k : Nat) (x0 x1 x2 x3 x4 x5 x6 x7 x8 x9 x10 : Int) : gatelineref09_Is.j0 (k + 1) true x0 x1 x2 x3 x4 x5 x6 x7 x8 x9 x10 = some false := by
  rw [gatelineref09_Is.j0, if_pos rfl]
theorem refIs_f (k : Nat) (x0 x1 x2 x3 x4 x5 x6 x7 x8 x9 x10 : Int) : gatelineref09_Is.f (k + 1 + 1) x0 x1 x2 x3 x4 x5 x6 x7 x8 x9 x10 = some (isB x0 x1 x2 x3 x4 x5 x6 x7 x8 x9 x10) := by
  unfold gatelineref09_Is.f
  by_cases c_0 : x0 < 1
  · rw [if_pos c_0, refIs_j0, isB_no x0 x1 x2 x3 x4 x5 x6 x7 x8 x9 x10 (by unfold plainP; omega)]
  rw [if_neg c_0]
  by_cases c_1 : x0 > 1099511627776
  · rw [if_pos c_1, refIs_j0, isB_no x0 x1 x2 x3 x4 x5 x6 x7 x8 x9 x10 (by unfold plainP; omega)]
  rw [if_neg c_1]
  by_cases c_2 : x1 < 1
  · rw [if_pos c_2, refIs_j0, isB_no x0 x1 x2 x3 x4 x5 x6 x7 x8 x9 x10 (by unfold plainP; omega)]
  rw [if_neg c_2]
  by_cases c_3 : x1 > 4
  · rw [if_pos c_3, refIs_j0, isB_no x0 x1 x2 x3 x4 x5 x6 x7 x8 x9 x10 (by unfold plainP; omega)]
  rw [if_neg c_3]
  by_cases c_4 : x4 < 1
  · rw [if_pos c_4, refIs_j0, isB_no x0 x1 x2 x3 x4 x5 x6 x7 x8 x9 x10 (by unfold plainP; omega)]
  rw [if_neg c_4]
  by_cases c_5 : x4 > 2
  · rw [if_pos c_5, refIs_j0, isB_no x0 x1 x2 x3 x4 x5 x6 x7 x8 x9 x10 (by unfold plainP; omega)]
  rw [if_neg c_5]
  by_cases c_6 : x5 < 0
  · rw [if_pos c_6, refIs_j0, isB_no x0 x1 x2 x3 x4 x5 x6 x7 x8 x9 x10 (by unfold plainP; omega)]
  rw [if_neg c_6]
  by_cases c_7 : x5 > 3
  · rw [if_pos c_7, refIs_j0, isB_no x0 x1 x2 x3 x4 x5 x6 x7 x8 x9 x10 (by unfold plainP; omega)]
  rw [if_neg c_7]
  by_cases c_8 : x6 < 0
  · rw [if_pos c_8, refIs_j0, isB_no x0 x1 x2 x3 x4 x5 x6 x7 x8 x9 x10 (by unfold plainP; omega)]
  rw [if_neg c_8]
  by_cases d0 : x6 > 999
  · rw [decide_eq_true d0, refIs_j0, isB_no x0 x1 x2 x3 x4 x5 x6 x7 x8 x9 x10 (by unfold plainP; omega)]
  rw [decide_eq_false d0, gatelineref09_Is.j0, if_neg (by decide)]
  by_cases c_9 : x7 < 0
  · rw [if_pos c_9, refIs_j1, isB_no x0 x1 x2 x3 x4 x5 x6 x7 x8 x9 x10 (by unfold plainP; omega)]
  rw [if_neg c_9]
  by_cases c_10 : x7 > 99999
  · rw [if_pos c_10, refIs_j1, isB_no x0 x1 x2 x3 x4 x5 x6 x7 x8 x9 x10 (by unfold plainP; omega)]
  rw [if_neg c_10]
  by_cases c_11 : x8 < 1
  · rw [if_pos c_11, refIs_j1, isB_no x0 x1 x2 x3 x4 x5 x6 x7 x8 x9 x10 (by unfold plainP; omega)]
  rw [if_neg c_11]
  by_cases c_12 : x8 > 999
  · rw [if_pos c_12, refIs_j1, isB_no x0 x1 x2 x3 x4 x5 x6 x7 x8 x9 x10 (by unfold plainP; omega)]
  rw [if_neg c_12]
  rw [w64 (x := x7 + x8) (by omega) (by omega)]
  by_cases c_13 : x7 + x8 > 100000
  · rw [if_pos c_13, refIs_j1, isB_no x0 x1 x2 x3 x4 x5 x6 x7 x8 x9 x10 (by unfold plainP; omega)]
  rw [if_neg c_13]
  by_cases c_14 : x10 < 0
  · rw [if_pos c_14, refIs_j1, isB_no x0 x1 x2 x3 x4 x5 x6 x7 x8 x9 x10 (by unfold plainP; omega)]
  rw [if_neg c_14]
  by_cases d1 : x10 > 9
  · rw [decide_eq_true d1, refIs_j1, isB_no x0 x1 x2 x3 x4 x5 x6 x7 x8 x9 x10 (by unfold plainP; omega)]
  rw [decide_eq_false d1, gatelineref09_Is.j1, if_neg (by decide), place_f, Option.bind_some, uses_f _ _ _ _ _ _ _ _ _ _ _ (by omega) (by omega), isB_plain x0 x1 x2 x3 x4 x5 x6 x7 x8 x9 x10 (by unfold plainP; omega)]
  cases placeB x1 x2 x3 <;> rfl
theorem zoneR_in {s : Int} (h : 0 ≤ s ∧ s < 40) : zoneR s = (zv s, 0) := if_pos h
theorem zoneR_out {s : Int} (h : ¬ (0 ≤ s ∧ s < 40)) : zoneR s = (0, 1) := if_neg h
theorem zv_fin : ∀ s : Fin 40, gatelineref07_Zone.f s.val = some (zoneR s.val) := by decide +kernel
theorem refZone_f (s : Int) : gatelineref07_Zone.f s = some (zoneR s) := by
  by_cases h : 0 ≤ s ∧ s < 40
  · have hs := zv_fin ⟨s.toNat, by omega⟩
    have e : ((s.toNat : Nat) : Int) = s := by omega
    simp only [e] at hs
    exact hs
  · unfold gatelineref07_Zone.f
    rw [refLis_f, Option.bind_some, show lisB s = false from decide_eq_false h, zoneR_out h]
    rfl
theorem refBet_in (a b s : Int) (ha : lisB a = true) (hb : lisB b = true) (hs : lisB s = true) : gatelineref07_Between.f a b s = some (decide (mn a b ≤ s ∧ s ≤ mx a b), 0) := by
  unfold gatelineref07_Between.f
  rw [refLis_f, refLis_f, refLis_f, ha, hb, hs]
  simp only [Option.bind_some, if_true]
  rw [mn_def, mx_def]
  by_cases h1 : a ≤ s
  · rw [if_pos h1]
    by_cases h2 : s ≤ b
    · rw [if_pos h2]
      congr 2
      exact (decide_eq_true (by split <;> split <;> omega)).symm
    · rw [if_neg h2]
      by_cases h3 : b ≤ s
      · rw [if_pos h3]
        congr 2
        exact decide_eq_decide.2 (by split <;> split <;> omega)
      · rw [if_neg h3]
        congr 2
        exact (decide_eq_false (by split <;> split <;> omega)).symm
  · rw [if_neg h1]
    by_cases h3 : b ≤ s
    · rw [if_pos h3]
      congr 2
      exact decide_eq_decide.2 (by split <;> split <;> omega)
    · rw [if_neg h3]
      congr 2
      exact (decide_eq_false (by split <;> split <;> omega)).symm
theorem refCovers_f (k : Nat) (x0 x1 x2 x3 x4 x5 x6 x7 x8 x9 x10 : Int) (s : Int) : gatelineref09_Covers.f (k + 1 + 1) x0 x1 x2 x3 x4 x5 x6 x7 x8 x9 x10 s = some (coversR x0 x1 x2 x3 x4 x5 x6 x7 x8 x9 x10 s) := by
  unfold gatelineref09_Covers.f
  rw [refZone_f, Option.bind_some, refIs_f, Option.bind_some]
  by_cases h : isB x0 x1 x2 x3 x4 x5 x6 x7 x8 x9 x10 = true
  · rw [if_pos h]
    by_cases hs : 0 ≤ s ∧ s < 40
    · rw [zoneR_in hs, coversR_in _ _ _ _ _ _ _ _ _ _ _ _ h hs, show ((0 : Int) != 0) = false by decide, gatelineref09_Covers.j0, if_neg (by decide)]
      by_cases hk : x1 = 3
      · rw [if_pos hk, if_pos hk]
        by_cases h1 : x2 ≤ zv s
        · rw [if_pos h1]
          congr 2
          exact decide_eq_decide.2 (by omega)
        · rw [if_neg h1]
          congr 2
          exact (decide_eq_false (by omega)).symm
      · obtain ⟨l2, l3⟩ := isB_way h hk
        rw [if_neg hk, if_neg hk, refBet_in x2 x3 s l2 l3 (decide_eq_true hs)]
        rfl
    · rw [zoneR_out hs, show ((1 : Int) != 0) = true by decide, gatelineref09_Covers.j0, if_pos rfl, show coversR x0 x1 x2 x3 x4 x5 x6 x7 x8 x9 x10 s = (false, 1) from if_neg (fun hh => hs hh.2)]
  · rw [if_neg h, gatelineref09_Covers.j0, if_pos rfl, show coversR x0 x1 x2 x3 x4 x5 x6 x7 x8 x9 x10 s = (false, 1) from if_neg (fun hh => h hh.1)]
end Go.Proofs.Ytdiijjdhofaodaa.Pure
