/- The walk of fare.Cut. Condition: price and number are ints. -/
import Derived.Test.YtdiijjdhofaodaaProg
import Derived.WalkKit
import Derived.KernelRfl
import Derived.Laws.EntriesVeiled
import Derived.WalkLawsBesides
import Derived.Lib.Hide
import Derived.Test.YtdiijjdhofaodaaWMore
namespace Go.Proofs.Ytdiijjdhofaodaa.G
open Go Go.RowKit Go.Proofs.YtdiijjdhofaodaaW.PrintWords Go.Proofs.YtdiijjdhofaodaaW.PrintLast Go.Proofs.YtdiijjdhofaodaaW.PrintMore
theorem named_0 (w : World) : Calls Try.prog 73 #[.int .i64 0] w fun e w' => e = .returned (.tuple #[.agg #[.func (.func 76) #[] #[]], .bool true]) ∧ Below w.heap.size w w' := by
  go_enter Try.func73, Try.ntmps73
  go_wp2
  exact bodyPost_ret (v := .tuple #[.agg #[.func (.func 76) #[] #[]], .bool true]) (by simp [results, Try.results73, go_sem]) rfl ⟨rfl, ((Below.refl _ _).alloc (Nat.le_refl _) _).alloc (by simp) _⟩
theorem named_no (n : Int) (w : World) (h0 : (n == 0) = false) (h1 : (n == 1) = false) (h2 : (n == 2) = false) (h3 : (n == 3) = false) :
    Calls Try.prog 73 #[.int .i64 n] w fun e w' => e = .returned (.tuple #[.agg #[.nilFunc], .bool false]) ∧ Below w.heap.size w w' := by
  go_enter Try.func73, Try.ntmps73
  go_wp2
  exact bodyPost_ret (v := .tuple #[.agg #[.nilFunc], .bool false]) (by simp [results, Try.results73, go_sem]) rfl ⟨rfl, ((Below.refl _ _).alloc (Nat.le_refl _) _).alloc (by simp) _⟩
theorem named_1 (w : World) : Calls Try.prog 73 #[.int .i64 1] w fun e w' => ∃ b, e = .returned (.tuple #[.agg #[.func (.func 77) #[] #[.pointer (some ⟨b, 0, none⟩)]], .bool true]) ∧ w'.cell? ⟨b, 0, none⟩ = some (.int .i64 3) ∧ b < w'.heap.size ∧ Below w.heap.size w w' := by
  go_enter Try.func73, Try.ntmps73
  go_wp2
  exact bodyPost_ret (v := .tuple #[.agg #[.func (.func 77) #[] #[.pointer (some ⟨w.heap.size + 1, 0, none⟩)]], .bool true]) (by simp [results, Try.results73, go_sem]) rfl ⟨w.heap.size + 1, rfl, by simp, by simp, ((Below.refl _ _).alloc (Nat.le_refl _) _).alloc (by simp) _⟩
theorem named_2 (w : World) : Calls Try.prog 73 #[.int .i64 2] w fun e w' => ∃ b, e = .returned (.tuple #[.agg #[.func (.func 77) #[] #[.pointer (some ⟨b, 0, none⟩)]], .bool true]) ∧ w'.cell? ⟨b, 0, none⟩ = some (.int .i64 2) ∧ b < w'.heap.size ∧ Below w.heap.size w w' := by
  go_enter Try.func73, Try.ntmps73
  go_wp2
  exact bodyPost_ret (v := .tuple #[.agg #[.func (.func 77) #[] #[.pointer (some ⟨w.heap.size + 1, 0, none⟩)]], .bool true]) (by simp [results, Try.results73, go_sem]) rfl ⟨w.heap.size + 1, rfl, by simp, by simp, ((Below.refl _ _).alloc (Nat.le_refl _) _).alloc (by simp) _⟩
theorem named_3 (w : World) : Calls Try.prog 73 #[.int .i64 3] w fun e w' => ∃ b, e = .returned (.tuple #[.agg #[.func (.func 77) #[] #[.pointer (some ⟨b, 0, none⟩)]], .bool true]) ∧ w'.cell? ⟨b, 0, none⟩ = some (.int .i64 10) ∧ b < w'.heap.size ∧ Below w.heap.size w w' := by
  go_enter Try.func73, Try.ntmps73
  go_wp2
  exact bodyPost_ret (v := .tuple #[.agg #[.func (.func 77) #[] #[.pointer (some ⟨w.heap.size + 1, 0, none⟩)]], .bool true]) (by simp [results, Try.results73, go_sem]) rfl ⟨w.heap.size + 1, rfl, by simp, by simp, ((Below.refl _ _).alloc (Nat.le_refl _) _).alloc (by simp) _⟩
theorem off_any (b : Nat) (p k : Int) (w : World) (hc : w.cell? ⟨b, 0, none⟩ = some (.int .i64 k)) (h0 : 0 ≤ p) (h1 : p ≤ 1000000000) (hk : 1 ≤ k) (hk2 : k ≤ 10) :
    Calls Try.prog 77 #[.int .i64 p, .pointer (some ⟨b, 0, none⟩)] w fun e w' => e = .returned (.int .i64 (p / k)) ∧ w = w' := by
  have hz : (k == 0) = false := beq_eq_false_iff_ne.2 (by omega)
  go_enter Try.func77, Try.ntmps77
  go_wp2
  go_ret
  exact ⟨rfl, rfl⟩
theorem mx_v (a b : Int) : mx a b = if a < b then b else a := rfl
theorem mn_v (a b : Int) : mn a b = if b < a then b else a := rfl
/-- What a price is with a railcard. -/
def cutR (p n : Int) : Int × Int :=
  if p < 0 ∨ p > 1000000000 ∨ n < 0 ∨ n > 3 then (0, 1)
  else (mx (p - (if n = 0 then 0 else if n = 1 then p / 3 else if n = 2 then p / 2 else p / 10)) (mn p 100), 0)
set_option maxRecDepth 100000 in
theorem cut_0 (p : Int) (w : World) (h0 : 0 ≤ p) (h1 : p ≤ 1000000000) :
    Calls Try.prog 65 #[.int .i64 p, .int .i64 0] w fun e w' => e = .returned (.tuple #[.int .i64 (mx (p - 0) (mn p 100)), .int .i64 0]) ∧ Below w.heap.size w w' := by
  by_cases c1 : 100 < p
  · rw [show mx (p - 0) (mn p 100) = p by rw [mn_v, if_pos c1, mx_v, if_neg (by omega)]; omega]
    go_enter Try.func65, Try.ntmps65
    go_wp2_with (first | (go_at_call 73; refine (named_0 _).mono ?_; rintro e w1 ⟨rfl, hb⟩; have hz := hb.size) | go_in)
    go_ret2
    exact ⟨rfl, hb.alloc hb.size _⟩
  · rw [show mx (p - 0) (mn p 100) = p by rw [mn_v, if_neg c1, mx_v, if_neg (by omega)]; omega]
    go_enter Try.func65, Try.ntmps65
    go_wp2_with (first | (go_at_call 73; refine (named_0 _).mono ?_; rintro e w1 ⟨rfl, hb⟩; have hz := hb.size) | go_in)
    go_ret2
    exact ⟨rfl, hb.alloc hb.size _⟩
set_option maxRecDepth 100000 in
theorem cut_1 (p : Int) (w : World) (h0 : 0 ≤ p) (h1 : p ≤ 1000000000) :
    Calls Try.prog 65 #[.int .i64 p, .int .i64 1] w fun e w' => e = .returned (.tuple #[.int .i64 (mx (p - p / 3) (mn p 100)), .int .i64 0]) ∧ Below w.heap.size w w' := by
  by_cases c1 : 100 < p
  · by_cases c2 : p - p / 3 < 100
    · rw [show mx (p - p / 3) (mn p 100) = 100 by rw [mn_v, if_pos c1, mx_v, if_pos c2]]
      go_enter Try.func65, Try.ntmps65
      go_wp2_with (first | (go_at_call 73; refine (named_1 _).mono ?_; rintro e w1 ⟨b, rfl, hc, hlt, hb⟩; have hz := hb.size) | (go_at_call 77; refine (off_any b p 3 _ ?hc (by omega) (by omega) (by omega) (by omega)).mono ?_; (case hc => exact (World.cell?_alloc_lt _ _ _ hlt).trans hc); rintro e w2 ⟨rfl, rfl⟩))
      go_ret2
      exact ⟨rfl, hb.alloc hb.size _⟩
    · rw [show mx (p - p / 3) (mn p 100) = p - p / 3 by rw [mn_v, if_pos c1, mx_v, if_neg c2]]
      go_enter Try.func65, Try.ntmps65
      go_wp2_with (first | (go_at_call 73; refine (named_1 _).mono ?_; rintro e w1 ⟨b, rfl, hc, hlt, hb⟩; have hz := hb.size) | (go_at_call 77; refine (off_any b p 3 _ ?hc (by omega) (by omega) (by omega) (by omega)).mono ?_; (case hc => exact (World.cell?_alloc_lt _ _ _ hlt).trans hc); rintro e w2 ⟨rfl, rfl⟩))
      go_ret2
      exact ⟨rfl, hb.alloc hb.size _⟩
  · by_cases c2 : p - p / 3 < p
    · rw [show mx (p - p / 3) (mn p 100) = p by rw [mn_v, if_neg c1, mx_v, if_pos c2]]
      go_enter Try.func65, Try.ntmps65
      go_wp2_with (first | (go_at_call 73; refine (named_1 _).mono ?_; rintro e w1 ⟨b, rfl, hc, hlt, hb⟩; have hz := hb.size) | (go_at_call 77; refine (off_any b p 3 _ ?hc (by omega) (by omega) (by omega) (by omega)).mono ?_; (case hc => exact (World.cell?_alloc_lt _ _ _ hlt).trans hc); rintro e w2 ⟨rfl, rfl⟩))
      go_ret2
      exact ⟨rfl, hb.alloc hb.size _⟩
    · rw [show mx (p - p / 3) (mn p 100) = p - p / 3 by rw [mn_v, if_neg c1, mx_v, if_neg c2]]
      go_enter Try.func65, Try.ntmps65
      go_wp2_with (first | (go_at_call 73; refine (named_1 _).mono ?_; rintro e w1 ⟨b, rfl, hc, hlt, hb⟩; have hz := hb.size) | (go_at_call 77; refine (off_any b p 3 _ ?hc (by omega) (by omega) (by omega) (by omega)).mono ?_; (case hc => exact (World.cell?_alloc_lt _ _ _ hlt).trans hc); rintro e w2 ⟨rfl, rfl⟩))
      go_ret2
      exact ⟨rfl, hb.alloc hb.size _⟩
set_option maxRecDepth 100000 in
theorem cut_2 (p : Int) (w : World) (h0 : 0 ≤ p) (h1 : p ≤ 1000000000) :
    Calls Try.prog 65 #[.int .i64 p, .int .i64 2] w fun e w' => e = .returned (.tuple #[.int .i64 (mx (p - p / 2) (mn p 100)), .int .i64 0]) ∧ Below w.heap.size w w' := by
  by_cases c1 : 100 < p
  · by_cases c2 : p - p / 2 < 100
    · rw [show mx (p - p / 2) (mn p 100) = 100 by rw [mn_v, if_pos c1, mx_v, if_pos c2]]
      go_enter Try.func65, Try.ntmps65
      go_wp2_with (first | (go_at_call 73; refine (named_2 _).mono ?_; rintro e w1 ⟨b, rfl, hc, hlt, hb⟩; have hz := hb.size) | (go_at_call 77; refine (off_any b p 2 _ ?hc (by omega) (by omega) (by omega) (by omega)).mono ?_; (case hc => exact (World.cell?_alloc_lt _ _ _ hlt).trans hc); rintro e w2 ⟨rfl, rfl⟩))
      go_ret2
      exact ⟨rfl, hb.alloc hb.size _⟩
    · rw [show mx (p - p / 2) (mn p 100) = p - p / 2 by rw [mn_v, if_pos c1, mx_v, if_neg c2]]
      go_enter Try.func65, Try.ntmps65
      go_wp2_with (first | (go_at_call 73; refine (named_2 _).mono ?_; rintro e w1 ⟨b, rfl, hc, hlt, hb⟩; have hz := hb.size) | (go_at_call 77; refine (off_any b p 2 _ ?hc (by omega) (by omega) (by omega) (by omega)).mono ?_; (case hc => exact (World.cell?_alloc_lt _ _ _ hlt).trans hc); rintro e w2 ⟨rfl, rfl⟩))
      go_ret2
      exact ⟨rfl, hb.alloc hb.size _⟩
  · by_cases c2 : p - p / 2 < p
    · rw [show mx (p - p / 2) (mn p 100) = p by rw [mn_v, if_neg c1, mx_v, if_pos c2]]
      go_enter Try.func65, Try.ntmps65
      go_wp2_with (first | (go_at_call 73; refine (named_2 _).mono ?_; rintro e w1 ⟨b, rfl, hc, hlt, hb⟩; have hz := hb.size) | (go_at_call 77; refine (off_any b p 2 _ ?hc (by omega) (by omega) (by omega) (by omega)).mono ?_; (case hc => exact (World.cell?_alloc_lt _ _ _ hlt).trans hc); rintro e w2 ⟨rfl, rfl⟩))
      go_ret2
      exact ⟨rfl, hb.alloc hb.size _⟩
    · rw [show mx (p - p / 2) (mn p 100) = p - p / 2 by rw [mn_v, if_neg c1, mx_v, if_neg c2]]
      go_enter Try.func65, Try.ntmps65
      go_wp2_with (first | (go_at_call 73; refine (named_2 _).mono ?_; rintro e w1 ⟨b, rfl, hc, hlt, hb⟩; have hz := hb.size) | (go_at_call 77; refine (off_any b p 2 _ ?hc (by omega) (by omega) (by omega) (by omega)).mono ?_; (case hc => exact (World.cell?_alloc_lt _ _ _ hlt).trans hc); rintro e w2 ⟨rfl, rfl⟩))
      go_ret2
      exact ⟨rfl, hb.alloc hb.size _⟩
set_option maxRecDepth 100000 in
theorem cut_3 (p : Int) (w : World) (h0 : 0 ≤ p) (h1 : p ≤ 1000000000) :
    Calls Try.prog 65 #[.int .i64 p, .int .i64 3] w fun e w' => e = .returned (.tuple #[.int .i64 (mx (p - p / 10) (mn p 100)), .int .i64 0]) ∧ Below w.heap.size w w' := by
  by_cases c1 : 100 < p
  · by_cases c2 : p - p / 10 < 100
    · rw [show mx (p - p / 10) (mn p 100) = 100 by rw [mn_v, if_pos c1, mx_v, if_pos c2]]
      go_enter Try.func65, Try.ntmps65
      go_wp2_with (first | (go_at_call 73; refine (named_3 _).mono ?_; rintro e w1 ⟨b, rfl, hc, hlt, hb⟩; have hz := hb.size) | (go_at_call 77; refine (off_any b p 10 _ ?hc (by omega) (by omega) (by omega) (by omega)).mono ?_; (case hc => exact (World.cell?_alloc_lt _ _ _ hlt).trans hc); rintro e w2 ⟨rfl, rfl⟩))
      go_ret2
      exact ⟨rfl, hb.alloc hb.size _⟩
    · rw [show mx (p - p / 10) (mn p 100) = p - p / 10 by rw [mn_v, if_pos c1, mx_v, if_neg c2]]
      go_enter Try.func65, Try.ntmps65
      go_wp2_with (first | (go_at_call 73; refine (named_3 _).mono ?_; rintro e w1 ⟨b, rfl, hc, hlt, hb⟩; have hz := hb.size) | (go_at_call 77; refine (off_any b p 10 _ ?hc (by omega) (by omega) (by omega) (by omega)).mono ?_; (case hc => exact (World.cell?_alloc_lt _ _ _ hlt).trans hc); rintro e w2 ⟨rfl, rfl⟩))
      go_ret2
      exact ⟨rfl, hb.alloc hb.size _⟩
  · by_cases c2 : p - p / 10 < p
    · rw [show mx (p - p / 10) (mn p 100) = p by rw [mn_v, if_neg c1, mx_v, if_pos c2]]
      go_enter Try.func65, Try.ntmps65
      go_wp2_with (first | (go_at_call 73; refine (named_3 _).mono ?_; rintro e w1 ⟨b, rfl, hc, hlt, hb⟩; have hz := hb.size) | (go_at_call 77; refine (off_any b p 10 _ ?hc (by omega) (by omega) (by omega) (by omega)).mono ?_; (case hc => exact (World.cell?_alloc_lt _ _ _ hlt).trans hc); rintro e w2 ⟨rfl, rfl⟩))
      go_ret2
      exact ⟨rfl, hb.alloc hb.size _⟩
    · rw [show mx (p - p / 10) (mn p 100) = p - p / 10 by rw [mn_v, if_neg c1, mx_v, if_neg c2]]
      go_enter Try.func65, Try.ntmps65
      go_wp2_with (first | (go_at_call 73; refine (named_3 _).mono ?_; rintro e w1 ⟨b, rfl, hc, hlt, hb⟩; have hz := hb.size) | (go_at_call 77; refine (off_any b p 10 _ ?hc (by omega) (by omega) (by omega) (by omega)).mono ?_; (case hc => exact (World.cell?_alloc_lt _ _ _ hlt).trans hc); rintro e w2 ⟨rfl, rfl⟩))
      go_ret2
      exact ⟨rfl, hb.alloc hb.size _⟩
set_option maxRecDepth 100000 in
theorem cut_low_0 (p : Int) (w : World) (c1 : p < 0) :
    Calls Try.prog 65 #[.int .i64 p, .int .i64 0] w fun e w' => e = .returned (.tuple #[.int .i64 0, .int .i64 1]) ∧ Below w.heap.size w w' := by
  go_enter Try.func65, Try.ntmps65
  go_wp2_with (first | (go_at_call 73; refine (named_0 _).mono ?_; rintro e w1 ⟨rfl, hb⟩; have hz := hb.size))
  go_ret2
  exact ⟨rfl, hb.alloc hb.size _⟩
set_option maxRecDepth 100000 in
theorem cut_high_0 (p : Int) (w : World) (c0 : 0 ≤ p) (c1 : 1000000000 < p) :
    Calls Try.prog 65 #[.int .i64 p, .int .i64 0] w fun e w' => e = .returned (.tuple #[.int .i64 0, .int .i64 1]) ∧ Below w.heap.size w w' := by
  go_enter Try.func65, Try.ntmps65
  go_wp2_with (first | (go_at_call 73; refine (named_0 _).mono ?_; rintro e w1 ⟨rfl, hb⟩; have hz := hb.size))
  go_ret2
  exact ⟨rfl, hb.alloc hb.size _⟩
set_option maxRecDepth 100000 in
theorem cut_low_1 (p : Int) (w : World) (c1 : p < 0) :
    Calls Try.prog 65 #[.int .i64 p, .int .i64 1] w fun e w' => e = .returned (.tuple #[.int .i64 0, .int .i64 1]) ∧ Below w.heap.size w w' := by
  go_enter Try.func65, Try.ntmps65
  go_wp2_with (first | (go_at_call 73; refine (named_1 _).mono ?_; rintro e w1 ⟨b, rfl, hc, hlt, hb⟩; have hz := hb.size) | (go_at_call 77; refine (off_any b p 3 _ ?hc (by omega) (by omega) (by omega) (by omega)).mono ?_; (case hc => exact (World.cell?_alloc_lt _ _ _ hlt).trans hc); rintro e w2 ⟨rfl, rfl⟩))
  go_ret2
  exact ⟨rfl, hb.alloc hb.size _⟩
set_option maxRecDepth 100000 in
theorem cut_high_1 (p : Int) (w : World) (c0 : 0 ≤ p) (c1 : 1000000000 < p) :
    Calls Try.prog 65 #[.int .i64 p, .int .i64 1] w fun e w' => e = .returned (.tuple #[.int .i64 0, .int .i64 1]) ∧ Below w.heap.size w w' := by
  go_enter Try.func65, Try.ntmps65
  go_wp2_with (first | (go_at_call 73; refine (named_1 _).mono ?_; rintro e w1 ⟨b, rfl, hc, hlt, hb⟩; have hz := hb.size) | (go_at_call 77; refine (off_any b p 3 _ ?hc (by omega) (by omega) (by omega) (by omega)).mono ?_; (case hc => exact (World.cell?_alloc_lt _ _ _ hlt).trans hc); rintro e w2 ⟨rfl, rfl⟩))
  go_ret2
  exact ⟨rfl, hb.alloc hb.size _⟩
set_option maxRecDepth 100000 in
theorem cut_low_2 (p : Int) (w : World) (c1 : p < 0) :
    Calls Try.prog 65 #[.int .i64 p, .int .i64 2] w fun e w' => e = .returned (.tuple #[.int .i64 0, .int .i64 1]) ∧ Below w.heap.size w w' := by
  go_enter Try.func65, Try.ntmps65
  go_wp2_with (first | (go_at_call 73; refine (named_2 _).mono ?_; rintro e w1 ⟨b, rfl, hc, hlt, hb⟩; have hz := hb.size) | (go_at_call 77; refine (off_any b p 2 _ ?hc (by omega) (by omega) (by omega) (by omega)).mono ?_; (case hc => exact (World.cell?_alloc_lt _ _ _ hlt).trans hc); rintro e w2 ⟨rfl, rfl⟩))
  go_ret2
  exact ⟨rfl, hb.alloc hb.size _⟩
set_option maxRecDepth 100000 in
theorem cut_high_2 (p : Int) (w : World) (c0 : 0 ≤ p) (c1 : 1000000000 < p) :
    Calls Try.prog 65 #[.int .i64 p, .int .i64 2] w fun e w' => e = .returned (.tuple #[.int .i64 0, .int .i64 1]) ∧ Below w.heap.size w w' := by
  go_enter Try.func65, Try.ntmps65
  go_wp2_with (first | (go_at_call 73; refine (named_2 _).mono ?_; rintro e w1 ⟨b, rfl, hc, hlt, hb⟩; have hz := hb.size) | (go_at_call 77; refine (off_any b p 2 _ ?hc (by omega) (by omega) (by omega) (by omega)).mono ?_; (case hc => exact (World.cell?_alloc_lt _ _ _ hlt).trans hc); rintro e w2 ⟨rfl, rfl⟩))
  go_ret2
  exact ⟨rfl, hb.alloc hb.size _⟩
set_option maxRecDepth 100000 in
theorem cut_low_3 (p : Int) (w : World) (c1 : p < 0) :
    Calls Try.prog 65 #[.int .i64 p, .int .i64 3] w fun e w' => e = .returned (.tuple #[.int .i64 0, .int .i64 1]) ∧ Below w.heap.size w w' := by
  go_enter Try.func65, Try.ntmps65
  go_wp2_with (first | (go_at_call 73; refine (named_3 _).mono ?_; rintro e w1 ⟨b, rfl, hc, hlt, hb⟩; have hz := hb.size) | (go_at_call 77; refine (off_any b p 10 _ ?hc (by omega) (by omega) (by omega) (by omega)).mono ?_; (case hc => exact (World.cell?_alloc_lt _ _ _ hlt).trans hc); rintro e w2 ⟨rfl, rfl⟩))
  go_ret2
  exact ⟨rfl, hb.alloc hb.size _⟩
set_option maxRecDepth 100000 in
theorem cut_high_3 (p : Int) (w : World) (c0 : 0 ≤ p) (c1 : 1000000000 < p) :
    Calls Try.prog 65 #[.int .i64 p, .int .i64 3] w fun e w' => e = .returned (.tuple #[.int .i64 0, .int .i64 1]) ∧ Below w.heap.size w w' := by
  go_enter Try.func65, Try.ntmps65
  go_wp2_with (first | (go_at_call 73; refine (named_3 _).mono ?_; rintro e w1 ⟨b, rfl, hc, hlt, hb⟩; have hz := hb.size) | (go_at_call 77; refine (off_any b p 10 _ ?hc (by omega) (by omega) (by omega) (by omega)).mono ?_; (case hc => exact (World.cell?_alloc_lt _ _ _ hlt).trans hc); rintro e w2 ⟨rfl, rfl⟩))
  go_ret2
  exact ⟨rfl, hb.alloc hb.size _⟩
set_option maxRecDepth 100000 in
theorem cut_low_no (p : Int) (n : Int) (w : World) (h0 : (n == 0) = false) (h1 : (n == 1) = false) (h2 : (n == 2) = false) (h3 : (n == 3) = false) (c1 : p < 0) :
    Calls Try.prog 65 #[.int .i64 p, .int .i64 n] w fun e w' => e = .returned (.tuple #[.int .i64 0, .int .i64 1]) ∧ Below w.heap.size w w' := by
  have H0 := Lib.hid h0
  have H1 := Lib.hid h1
  have H2 := Lib.hid h2
  have H3 := Lib.hid h3
  clear h0 h1 h2 h3
  go_enter Try.func65, Try.ntmps65
  go_wp2_with (first | (go_at_call 73; refine (named_no _ _ H0.out H1.out H2.out H3.out).mono ?_; rintro e w1 ⟨rfl, hb⟩; have hz := hb.size))
  go_ret2
  exact ⟨rfl, hb.alloc hb.size _⟩
set_option maxRecDepth 100000 in
theorem cut_high_no (p : Int) (n : Int) (w : World) (h0 : (n == 0) = false) (h1 : (n == 1) = false) (h2 : (n == 2) = false) (h3 : (n == 3) = false) (c0 : 0 ≤ p) (c1 : 1000000000 < p) :
    Calls Try.prog 65 #[.int .i64 p, .int .i64 n] w fun e w' => e = .returned (.tuple #[.int .i64 0, .int .i64 1]) ∧ Below w.heap.size w w' := by
  have H0 := Lib.hid h0
  have H1 := Lib.hid h1
  have H2 := Lib.hid h2
  have H3 := Lib.hid h3
  clear h0 h1 h2 h3
  go_enter Try.func65, Try.ntmps65
  go_wp2_with (first | (go_at_call 73; refine (named_no _ _ H0.out H1.out H2.out H3.out).mono ?_; rintro e w1 ⟨rfl, hb⟩; have hz := hb.size))
  go_ret2
  exact ⟨rfl, hb.alloc hb.size _⟩
set_option maxRecDepth 100000 in
theorem cut_mid_no (p : Int) (n : Int) (w : World) (h0 : (n == 0) = false) (h1 : (n == 1) = false) (h2 : (n == 2) = false) (h3 : (n == 3) = false) (c0 : 0 ≤ p) (c1 : p ≤ 1000000000) :
    Calls Try.prog 65 #[.int .i64 p, .int .i64 n] w fun e w' => e = .returned (.tuple #[.int .i64 0, .int .i64 1]) ∧ Below w.heap.size w w' := by
  have H0 := Lib.hid h0
  have H1 := Lib.hid h1
  have H2 := Lib.hid h2
  have H3 := Lib.hid h3
  clear h0 h1 h2 h3
  go_enter Try.func65, Try.ntmps65
  go_wp2_with (first | (go_at_call 73; refine (named_no _ _ H0.out H1.out H2.out H3.out).mono ?_; rintro e w1 ⟨rfl, hb⟩; have hz := hb.size))
  go_ret2
  exact ⟨rfl, hb.alloc hb.size _⟩
theorem cut_any (p n : Int) (w : World) : Calls Try.prog 65 #[.int .i64 p, .int .i64 n] w fun e w' => e = .returned (.tuple #[.int .i64 (cutR p n).1, .int .i64 (cutR p n).2]) ∧ Below w.heap.size w w' := by
  by_cases hn : 0 ≤ n ∧ n ≤ 3
  · by_cases hp : 0 ≤ p ∧ p ≤ 1000000000
    · rw [show cutR p n = (mx (p - (if n = 0 then 0 else if n = 1 then p / 3 else if n = 2 then p / 2 else p / 10)) (mn p 100), 0) by unfold cutR; rw [if_neg (by omega)]]
      rcases (by omega : n = 0 ∨ n = 1 ∨ n = 2 ∨ n = 3) with rfl | rfl | rfl | rfl
      · exact cut_0 p w hp.1 hp.2
      · exact cut_1 p w hp.1 hp.2
      · exact cut_2 p w hp.1 hp.2
      · exact cut_3 p w hp.1 hp.2
    · rw [show cutR p n = (0, 1) by unfold cutR; rw [if_pos (by omega)]]
      by_cases hl : p < 0
      · rcases (by omega : n = 0 ∨ n = 1 ∨ n = 2 ∨ n = 3) with rfl | rfl | rfl | rfl
        · exact cut_low_0 p w hl
        · exact cut_low_1 p w hl
        · exact cut_low_2 p w hl
        · exact cut_low_3 p w hl
      · rcases (by omega : n = 0 ∨ n = 1 ∨ n = 2 ∨ n = 3) with rfl | rfl | rfl | rfl
        · exact cut_high_0 p w (by omega) (by omega)
        · exact cut_high_1 p w (by omega) (by omega)
        · exact cut_high_2 p w (by omega) (by omega)
        · exact cut_high_3 p w (by omega) (by omega)
  · rw [show cutR p n = (0, 1) by unfold cutR; rw [if_pos (by omega)]]
    have h0 : (n == 0) = false := beq_eq_false_iff_ne.2 (by omega)
    have h1 : (n == 1) = false := beq_eq_false_iff_ne.2 (by omega)
    have h2 : (n == 2) = false := beq_eq_false_iff_ne.2 (by omega)
    have h3 : (n == 3) = false := beq_eq_false_iff_ne.2 (by omega)
    by_cases hl : p < 0
    · exact cut_low_no p n w h0 h1 h2 h3 hl
    by_cases hh : 1000000000 < p
    · exact cut_high_no p n w h0 h1 h2 h3 (by omega) hh
    · exact cut_mid_no p n w h0 h1 h2 h3 (by omega) (by omega)
end Go.Proofs.Ytdiijjdhofaodaa.G
