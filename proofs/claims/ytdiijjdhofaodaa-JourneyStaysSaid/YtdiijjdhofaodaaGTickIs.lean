/- The walk of ticket.Is: for any eleven numbers. -/
import Derived.Test.YtdiijjdhofaodaaGTicket
namespace Go.Proofs.Ytdiijjdhofaodaa.G
open Go Go.RowKit Go.Proofs.YtdiijjdhofaodaaW.PrintWords Go.Proofs.YtdiijjdhofaodaaW.PrintLast Go.Proofs.YtdiijjdhofaodaaW.PrintMore
theorem within_eq {n l m : Int} {b : Bool} (h : betw n l m = b) (w : World) : Calls Try.prog 53 #[.int .i64 n, .int .i64 l, .int .i64 m] w fun e w' => e = .returned (.bool b) ∧ w = w' := h ▸ within_any n l m w
theorem tw64 {x : Int} (h0 : -9223372036854775808 ≤ x) (h1 : x ≤ 9223372036854775807) : wrap64 x = x := by
  unfold wrap64
  omega
def zonesB (x2 x3 : Int) : Bool := betw x2 1 6 && betw x3 x2 6
def wayB (x2 x3 : Int) : Bool := lisB x2 && lisB x3 && (x2 != x3)
def paperW (w : World) (x0 x1 x2 x3 x4 x5 x6 x7 x8 x9 x10 : Int) : World := w.alloc (.cells #[.int .i64 x0, .int .i64 x1, .int .i64 x2, .int .i64 x3, .int .i64 x4, .int .i64 x5, .int .i64 x6, .int .i64 x7, .int .i64 x8, .int .i64 x9, .int .i64 x10] 68)
theorem zones_eq {b : Bool} (x0 x1 x2 x3 x4 x5 x6 x7 x8 x9 x10 : Int) (h : zonesB x2 x3 = b) (w : World) : Calls Try.prog 57 #[.agg #[.int .i64 x0, .int .i64 x1, .int .i64 x2, .int .i64 x3, .int .i64 x4, .int .i64 x5, .int .i64 x6, .int .i64 x7, .int .i64 x8, .int .i64 x9, .int .i64 x10]] w fun e w' => e = .returned (.bool b) ∧ w' = w.alloc (.cells #[.int .i64 x0, .int .i64 x1, .int .i64 x2, .int .i64 x3, .int .i64 x4, .int .i64 x5, .int .i64 x6, .int .i64 x7, .int .i64 x8, .int .i64 x9, .int .i64 x10] 68) := h ▸ zones_call x0 x1 x2 x3 x4 x5 x6 x7 x8 x9 x10 w
theorem way_eq {b : Bool} (x0 x1 x2 x3 x4 x5 x6 x7 x8 x9 x10 : Int) (h : wayB x2 x3 = b) (w : World) : Calls Try.prog 58 #[.agg #[.int .i64 x0, .int .i64 x1, .int .i64 x2, .int .i64 x3, .int .i64 x4, .int .i64 x5, .int .i64 x6, .int .i64 x7, .int .i64 x8, .int .i64 x9, .int .i64 x10]] w fun e w' => e = .returned (.bool b) ∧ w' = w.alloc (.cells #[.int .i64 x0, .int .i64 x1, .int .i64 x2, .int .i64 x3, .int .i64 x4, .int .i64 x5, .int .i64 x6, .int .i64 x7, .int .i64 x8, .int .i64 x9, .int .i64 x10] 68) := h ▸ way_call x0 x1 x2 x3 x4 x5 x6 x7 x8 x9 x10 w
set_option maxRecDepth 100000 in
set_option maxHeartbeats 1000000 in
theorem is_no0 (x0 x1 x2 x3 x4 x5 x6 x7 x8 x9 x10 : Int) (w : World) (h0 : betw x0 1 1099511627776 = false) : Calls Try.prog 30 #[.agg #[.int .i64 x0, .int .i64 x1, .int .i64 x2, .int .i64 x3, .int .i64 x4, .int .i64 x5, .int .i64 x6, .int .i64 x7, .int .i64 x8, .int .i64 x9, .int .i64 x10]] w fun e w' => e = .returned (.bool false) ∧ Below w.heap.size w w' := by
  go_enter Try.func30, Try.ntmps30
  go_wp2_with (first
    | (go_at_call 53; refine (within_eq (by assumption) _).mono ?_; rintro e w' ⟨rfl, rfl⟩)
    | (go_at_call 57; refine (zones_eq _ _ _ _ _ _ _ _ _ _ _ (by assumption) _).mono ?_; rintro e w' ⟨rfl, rfl⟩)
    | (go_at_call 58; refine (way_eq _ _ _ _ _ _ _ _ _ _ _ (by assumption) _).mono ?_; rintro e w' ⟨rfl, rfl⟩)
    | (go_at_call 59; refine (uses_call _ _ _ _ _ _ _ _ _ _ _ _).mono ?_; rintro e w' ⟨rfl, rfl⟩)
    | go_in)
  go_ret
  exact ⟨rfl, by repeat' (first | exact Below.refl _ _ | refine Below.alloc ?_ (by first | exact Nat.le_refl _ | (simp only [World.size_alloc]; omega)) _)⟩
set_option maxRecDepth 100000 in
set_option maxHeartbeats 1000000 in
theorem is_no1 (x0 x1 x2 x3 x4 x5 x6 x7 x8 x9 x10 : Int) (w : World) (h0 : betw x0 1 1099511627776 = true) (h1 : betw x1 1 4 = false) : Calls Try.prog 30 #[.agg #[.int .i64 x0, .int .i64 x1, .int .i64 x2, .int .i64 x3, .int .i64 x4, .int .i64 x5, .int .i64 x6, .int .i64 x7, .int .i64 x8, .int .i64 x9, .int .i64 x10]] w fun e w' => e = .returned (.bool false) ∧ Below w.heap.size w w' := by
  go_enter Try.func30, Try.ntmps30
  go_wp2_with (first
    | (go_at_call 53; refine (within_eq (by assumption) _).mono ?_; rintro e w' ⟨rfl, rfl⟩)
    | (go_at_call 57; refine (zones_eq _ _ _ _ _ _ _ _ _ _ _ (by assumption) _).mono ?_; rintro e w' ⟨rfl, rfl⟩)
    | (go_at_call 58; refine (way_eq _ _ _ _ _ _ _ _ _ _ _ (by assumption) _).mono ?_; rintro e w' ⟨rfl, rfl⟩)
    | (go_at_call 59; refine (uses_call _ _ _ _ _ _ _ _ _ _ _ _).mono ?_; rintro e w' ⟨rfl, rfl⟩)
    | go_in)
  go_ret
  exact ⟨rfl, by repeat' (first | exact Below.refl _ _ | refine Below.alloc ?_ (by first | exact Nat.le_refl _ | (simp only [World.size_alloc]; omega)) _)⟩
set_option maxRecDepth 100000 in
set_option maxHeartbeats 1000000 in
theorem is_no2 (x0 x1 x2 x3 x4 x5 x6 x7 x8 x9 x10 : Int) (w : World) (h0 : betw x0 1 1099511627776 = true) (h1 : betw x1 1 4 = true) (h2 : betw x4 1 2 = false) : Calls Try.prog 30 #[.agg #[.int .i64 x0, .int .i64 x1, .int .i64 x2, .int .i64 x3, .int .i64 x4, .int .i64 x5, .int .i64 x6, .int .i64 x7, .int .i64 x8, .int .i64 x9, .int .i64 x10]] w fun e w' => e = .returned (.bool false) ∧ Below w.heap.size w w' := by
  go_enter Try.func30, Try.ntmps30
  go_wp2_with (first
    | (go_at_call 53; refine (within_eq (by assumption) _).mono ?_; rintro e w' ⟨rfl, rfl⟩)
    | (go_at_call 57; refine (zones_eq _ _ _ _ _ _ _ _ _ _ _ (by assumption) _).mono ?_; rintro e w' ⟨rfl, rfl⟩)
    | (go_at_call 58; refine (way_eq _ _ _ _ _ _ _ _ _ _ _ (by assumption) _).mono ?_; rintro e w' ⟨rfl, rfl⟩)
    | (go_at_call 59; refine (uses_call _ _ _ _ _ _ _ _ _ _ _ _).mono ?_; rintro e w' ⟨rfl, rfl⟩)
    | go_in)
  go_ret
  exact ⟨rfl, by repeat' (first | exact Below.refl _ _ | refine Below.alloc ?_ (by first | exact Nat.le_refl _ | (simp only [World.size_alloc]; omega)) _)⟩
set_option maxRecDepth 100000 in
set_option maxHeartbeats 1000000 in
theorem is_no3 (x0 x1 x2 x3 x4 x5 x6 x7 x8 x9 x10 : Int) (w : World) (h0 : betw x0 1 1099511627776 = true) (h1 : betw x1 1 4 = true) (h2 : betw x4 1 2 = true) (h3 : betw x5 0 3 = false) : Calls Try.prog 30 #[.agg #[.int .i64 x0, .int .i64 x1, .int .i64 x2, .int .i64 x3, .int .i64 x4, .int .i64 x5, .int .i64 x6, .int .i64 x7, .int .i64 x8, .int .i64 x9, .int .i64 x10]] w fun e w' => e = .returned (.bool false) ∧ Below w.heap.size w w' := by
  go_enter Try.func30, Try.ntmps30
  go_wp2_with (first
    | (go_at_call 53; refine (within_eq (by assumption) _).mono ?_; rintro e w' ⟨rfl, rfl⟩)
    | (go_at_call 57; refine (zones_eq _ _ _ _ _ _ _ _ _ _ _ (by assumption) _).mono ?_; rintro e w' ⟨rfl, rfl⟩)
    | (go_at_call 58; refine (way_eq _ _ _ _ _ _ _ _ _ _ _ (by assumption) _).mono ?_; rintro e w' ⟨rfl, rfl⟩)
    | (go_at_call 59; refine (uses_call _ _ _ _ _ _ _ _ _ _ _ _).mono ?_; rintro e w' ⟨rfl, rfl⟩)
    | go_in)
  go_ret
  exact ⟨rfl, by repeat' (first | exact Below.refl _ _ | refine Below.alloc ?_ (by first | exact Nat.le_refl _ | (simp only [World.size_alloc]; omega)) _)⟩
set_option maxRecDepth 100000 in
set_option maxHeartbeats 1000000 in
theorem is_no4 (x0 x1 x2 x3 x4 x5 x6 x7 x8 x9 x10 : Int) (w : World) (h0 : betw x0 1 1099511627776 = true) (h1 : betw x1 1 4 = true) (h2 : betw x4 1 2 = true) (h3 : betw x5 0 3 = true) (h4 : betw x6 0 999 = false) : Calls Try.prog 30 #[.agg #[.int .i64 x0, .int .i64 x1, .int .i64 x2, .int .i64 x3, .int .i64 x4, .int .i64 x5, .int .i64 x6, .int .i64 x7, .int .i64 x8, .int .i64 x9, .int .i64 x10]] w fun e w' => e = .returned (.bool false) ∧ Below w.heap.size w w' := by
  go_enter Try.func30, Try.ntmps30
  go_wp2_with (first
    | (go_at_call 53; refine (within_eq (by assumption) _).mono ?_; rintro e w' ⟨rfl, rfl⟩)
    | (go_at_call 57; refine (zones_eq _ _ _ _ _ _ _ _ _ _ _ (by assumption) _).mono ?_; rintro e w' ⟨rfl, rfl⟩)
    | (go_at_call 58; refine (way_eq _ _ _ _ _ _ _ _ _ _ _ (by assumption) _).mono ?_; rintro e w' ⟨rfl, rfl⟩)
    | (go_at_call 59; refine (uses_call _ _ _ _ _ _ _ _ _ _ _ _).mono ?_; rintro e w' ⟨rfl, rfl⟩)
    | go_in)
  go_ret
  exact ⟨rfl, by repeat' (first | exact Below.refl _ _ | refine Below.alloc ?_ (by first | exact Nat.le_refl _ | (simp only [World.size_alloc]; omega)) _)⟩
set_option maxRecDepth 100000 in
set_option maxHeartbeats 1000000 in
theorem is_no5 (x0 x1 x2 x3 x4 x5 x6 x7 x8 x9 x10 : Int) (w : World) (h0 : betw x0 1 1099511627776 = true) (h1 : betw x1 1 4 = true) (h2 : betw x4 1 2 = true) (h3 : betw x5 0 3 = true) (h4 : betw x6 0 999 = true) (h5 : betw x7 0 99999 = false) : Calls Try.prog 30 #[.agg #[.int .i64 x0, .int .i64 x1, .int .i64 x2, .int .i64 x3, .int .i64 x4, .int .i64 x5, .int .i64 x6, .int .i64 x7, .int .i64 x8, .int .i64 x9, .int .i64 x10]] w fun e w' => e = .returned (.bool false) ∧ Below w.heap.size w w' := by
  go_enter Try.func30, Try.ntmps30
  go_wp2_with (first
    | (go_at_call 53; refine (within_eq (by assumption) _).mono ?_; rintro e w' ⟨rfl, rfl⟩)
    | (go_at_call 57; refine (zones_eq _ _ _ _ _ _ _ _ _ _ _ (by assumption) _).mono ?_; rintro e w' ⟨rfl, rfl⟩)
    | (go_at_call 58; refine (way_eq _ _ _ _ _ _ _ _ _ _ _ (by assumption) _).mono ?_; rintro e w' ⟨rfl, rfl⟩)
    | (go_at_call 59; refine (uses_call _ _ _ _ _ _ _ _ _ _ _ _).mono ?_; rintro e w' ⟨rfl, rfl⟩)
    | go_in)
  go_ret
  exact ⟨rfl, by repeat' (first | exact Below.refl _ _ | refine Below.alloc ?_ (by first | exact Nat.le_refl _ | (simp only [World.size_alloc]; omega)) _)⟩
set_option maxRecDepth 100000 in
set_option maxHeartbeats 1000000 in
theorem is_no6 (x0 x1 x2 x3 x4 x5 x6 x7 x8 x9 x10 : Int) (w : World) (h0 : betw x0 1 1099511627776 = true) (h1 : betw x1 1 4 = true) (h2 : betw x4 1 2 = true) (h3 : betw x5 0 3 = true) (h4 : betw x6 0 999 = true) (h5 : betw x7 0 99999 = true) (h6 : betw x8 1 999 = false) : Calls Try.prog 30 #[.agg #[.int .i64 x0, .int .i64 x1, .int .i64 x2, .int .i64 x3, .int .i64 x4, .int .i64 x5, .int .i64 x6, .int .i64 x7, .int .i64 x8, .int .i64 x9, .int .i64 x10]] w fun e w' => e = .returned (.bool false) ∧ Below w.heap.size w w' := by
  go_enter Try.func30, Try.ntmps30
  go_wp2_with (first
    | (go_at_call 53; refine (within_eq (by assumption) _).mono ?_; rintro e w' ⟨rfl, rfl⟩)
    | (go_at_call 57; refine (zones_eq _ _ _ _ _ _ _ _ _ _ _ (by assumption) _).mono ?_; rintro e w' ⟨rfl, rfl⟩)
    | (go_at_call 58; refine (way_eq _ _ _ _ _ _ _ _ _ _ _ (by assumption) _).mono ?_; rintro e w' ⟨rfl, rfl⟩)
    | (go_at_call 59; refine (uses_call _ _ _ _ _ _ _ _ _ _ _ _).mono ?_; rintro e w' ⟨rfl, rfl⟩)
    | go_in)
  go_ret
  exact ⟨rfl, by repeat' (first | exact Below.refl _ _ | refine Below.alloc ?_ (by first | exact Nat.le_refl _ | (simp only [World.size_alloc]; omega)) _)⟩
set_option maxRecDepth 100000 in
set_option maxHeartbeats 1000000 in
theorem is_no7 (x0 x1 x2 x3 x4 x5 x6 x7 x8 x9 x10 : Int) (w : World) (h0 : betw x0 1 1099511627776 = true) (h1 : betw x1 1 4 = true) (h2 : betw x4 1 2 = true) (h3 : betw x5 0 3 = true) (h4 : betw x6 0 999 = true) (h5 : betw x7 0 99999 = true) (h6 : betw x8 1 999 = true) (h7 : 100000 < x7 + x8) : Calls Try.prog 30 #[.agg #[.int .i64 x0, .int .i64 x1, .int .i64 x2, .int .i64 x3, .int .i64 x4, .int .i64 x5, .int .i64 x6, .int .i64 x7, .int .i64 x8, .int .i64 x9, .int .i64 x10]] w fun e w' => e = .returned (.bool false) ∧ Below w.heap.size w w' := by
  have k7 := of_decide_eq_true h5
  have k8 := of_decide_eq_true h6
  have ks : wrap64 (x7 + x8) = x7 + x8 := tw64 (by omega) (by omega)
  go_enter Try.func30, Try.ntmps30
  go_wp2_with (first
    | (go_at_call 53; refine (within_eq (by assumption) _).mono ?_; rintro e w' ⟨rfl, rfl⟩)
    | (go_at_call 57; refine (zones_eq _ _ _ _ _ _ _ _ _ _ _ (by assumption) _).mono ?_; rintro e w' ⟨rfl, rfl⟩)
    | (go_at_call 58; refine (way_eq _ _ _ _ _ _ _ _ _ _ _ (by assumption) _).mono ?_; rintro e w' ⟨rfl, rfl⟩)
    | (go_at_call 59; refine (uses_call _ _ _ _ _ _ _ _ _ _ _ _).mono ?_; rintro e w' ⟨rfl, rfl⟩)
    | go_in)
  go_ret
  exact ⟨rfl, by repeat' (first | exact Below.refl _ _ | refine Below.alloc ?_ (by first | exact Nat.le_refl _ | (simp only [World.size_alloc]; omega)) _)⟩
set_option maxRecDepth 100000 in
set_option maxHeartbeats 1000000 in
theorem is_no8 (x0 x1 x2 x3 x4 x5 x6 x7 x8 x9 x10 : Int) (w : World) (h0 : betw x0 1 1099511627776 = true) (h1 : betw x1 1 4 = true) (h2 : betw x4 1 2 = true) (h3 : betw x5 0 3 = true) (h4 : betw x6 0 999 = true) (h5 : betw x7 0 99999 = true) (h6 : betw x8 1 999 = true) (h7 : x7 + x8 ≤ 100000) (h8 : betw x10 0 9 = false) : Calls Try.prog 30 #[.agg #[.int .i64 x0, .int .i64 x1, .int .i64 x2, .int .i64 x3, .int .i64 x4, .int .i64 x5, .int .i64 x6, .int .i64 x7, .int .i64 x8, .int .i64 x9, .int .i64 x10]] w fun e w' => e = .returned (.bool false) ∧ Below w.heap.size w w' := by
  have k7 := of_decide_eq_true h5
  have k8 := of_decide_eq_true h6
  have ks : wrap64 (x7 + x8) = x7 + x8 := tw64 (by omega) (by omega)
  go_enter Try.func30, Try.ntmps30
  go_wp2_with (first
    | (go_at_call 53; refine (within_eq (by assumption) _).mono ?_; rintro e w' ⟨rfl, rfl⟩)
    | (go_at_call 57; refine (zones_eq _ _ _ _ _ _ _ _ _ _ _ (by assumption) _).mono ?_; rintro e w' ⟨rfl, rfl⟩)
    | (go_at_call 58; refine (way_eq _ _ _ _ _ _ _ _ _ _ _ (by assumption) _).mono ?_; rintro e w' ⟨rfl, rfl⟩)
    | (go_at_call 59; refine (uses_call _ _ _ _ _ _ _ _ _ _ _ _).mono ?_; rintro e w' ⟨rfl, rfl⟩)
    | go_in)
  go_ret
  exact ⟨rfl, by repeat' (first | exact Below.refl _ _ | refine Below.alloc ?_ (by first | exact Nat.le_refl _ | (simp only [World.size_alloc]; omega)) _)⟩
set_option maxRecDepth 100000 in
set_option maxHeartbeats 1000000 in
theorem is_season_no (x0 x2 x3 x4 x5 x6 x7 x8 x9 x10 : Int) (w : World) (h0 : betw x0 1 1099511627776 = true) (h2 : betw x4 1 2 = true) (h3 : betw x5 0 3 = true) (h4 : betw x6 0 999 = true) (h5 : betw x7 0 99999 = true) (h6 : betw x8 1 999 = true) (h7 : x7 + x8 ≤ 100000) (h8 : betw x10 0 9 = true) (hz : zonesB x2 x3 = false) : Calls Try.prog 30 #[.agg #[.int .i64 x0, .int .i64 3, .int .i64 x2, .int .i64 x3, .int .i64 x4, .int .i64 x5, .int .i64 x6, .int .i64 x7, .int .i64 x8, .int .i64 x9, .int .i64 x10]] w fun e w' => e = .returned (.bool false) ∧ Below w.heap.size w w' := by
  have k7 := of_decide_eq_true h5
  have k8 := of_decide_eq_true h6
  have ks : wrap64 (x7 + x8) = x7 + x8 := tw64 (by omega) (by omega)
  have h1 : betw 3 1 4 = true := rfl
  go_enter Try.func30, Try.ntmps30
  go_wp2_with (first
    | (go_at_call 53; refine (within_eq (by assumption) _).mono ?_; rintro e w' ⟨rfl, rfl⟩)
    | (go_at_call 57; refine (zones_eq _ _ _ _ _ _ _ _ _ _ _ (by assumption) _).mono ?_; rintro e w' ⟨rfl, rfl⟩)
    | (go_at_call 58; refine (way_eq _ _ _ _ _ _ _ _ _ _ _ (by assumption) _).mono ?_; rintro e w' ⟨rfl, rfl⟩)
    | (go_at_call 59; refine (uses_call _ _ _ _ _ _ _ _ _ _ _ _).mono ?_; rintro e w' ⟨rfl, rfl⟩)
    | go_in)
  go_ret
  exact ⟨rfl, by repeat' (first | exact Below.refl _ _ | refine Below.alloc ?_ (by first | exact Nat.le_refl _ | (simp only [World.size_alloc]; omega)) _)⟩
set_option maxRecDepth 100000 in
set_option maxHeartbeats 1000000 in
theorem is_season_yes (x0 x2 x3 x4 x5 x6 x7 x8 x9 x10 : Int) (w : World) (h0 : betw x0 1 1099511627776 = true) (h2 : betw x4 1 2 = true) (h3 : betw x5 0 3 = true) (h4 : betw x6 0 999 = true) (h5 : betw x7 0 99999 = true) (h6 : betw x8 1 999 = true) (h7 : x7 + x8 ≤ 100000) (h8 : betw x10 0 9 = true) (hz : zonesB x2 x3 = true) : Calls Try.prog 30 #[.agg #[.int .i64 x0, .int .i64 3, .int .i64 x2, .int .i64 x3, .int .i64 x4, .int .i64 x5, .int .i64 x6, .int .i64 x7, .int .i64 x8, .int .i64 x9, .int .i64 x10]] w fun e w' => e = .returned (.bool (usesB 3 x9)) ∧ Below w.heap.size w w' := by
  have k7 := of_decide_eq_true h5
  have k8 := of_decide_eq_true h6
  have ks : wrap64 (x7 + x8) = x7 + x8 := tw64 (by omega) (by omega)
  have h1 : betw 3 1 4 = true := rfl
  go_enter Try.func30, Try.ntmps30
  go_wp2_with (first
    | (go_at_call 53; refine (within_eq (by assumption) _).mono ?_; rintro e w' ⟨rfl, rfl⟩)
    | (go_at_call 57; refine (zones_eq _ _ _ _ _ _ _ _ _ _ _ (by assumption) _).mono ?_; rintro e w' ⟨rfl, rfl⟩)
    | (go_at_call 58; refine (way_eq _ _ _ _ _ _ _ _ _ _ _ (by assumption) _).mono ?_; rintro e w' ⟨rfl, rfl⟩)
    | (go_at_call 59; refine (uses_call _ _ _ _ _ _ _ _ _ _ _ _).mono ?_; rintro e w' ⟨rfl, rfl⟩)
    | go_in)
  go_ret
  exact ⟨rfl, by repeat' (first | exact Below.refl _ _ | refine Below.alloc ?_ (by first | exact Nat.le_refl _ | (simp only [World.size_alloc]; omega)) _)⟩
set_option maxRecDepth 100000 in
set_option maxHeartbeats 1000000 in
theorem is_other_no (x0 x1 x2 x3 x4 x5 x6 x7 x8 x9 x10 : Int) (w : World) (h0 : betw x0 1 1099511627776 = true) (h1 : betw x1 1 4 = true) (h2 : betw x4 1 2 = true) (h3 : betw x5 0 3 = true) (h4 : betw x6 0 999 = true) (h5 : betw x7 0 99999 = true) (h6 : betw x8 1 999 = true) (h7 : x7 + x8 ≤ 100000) (h8 : betw x10 0 9 = true) (hk : x1 ≠ 3) (hz : wayB x2 x3 = false) : Calls Try.prog 30 #[.agg #[.int .i64 x0, .int .i64 x1, .int .i64 x2, .int .i64 x3, .int .i64 x4, .int .i64 x5, .int .i64 x6, .int .i64 x7, .int .i64 x8, .int .i64 x9, .int .i64 x10]] w fun e w' => e = .returned (.bool false) ∧ Below w.heap.size w w' := by
  have k7 := of_decide_eq_true h5
  have k8 := of_decide_eq_true h6
  have ks : wrap64 (x7 + x8) = x7 + x8 := tw64 (by omega) (by omega)
  have e3 : (x1 == 3) = false := beq_eq_false_iff_ne.2 hk
  go_enter Try.func30, Try.ntmps30
  go_wp2_with (first
    | (go_at_call 53; refine (within_eq (by assumption) _).mono ?_; rintro e w' ⟨rfl, rfl⟩)
    | (go_at_call 57; refine (zones_eq _ _ _ _ _ _ _ _ _ _ _ (by assumption) _).mono ?_; rintro e w' ⟨rfl, rfl⟩)
    | (go_at_call 58; refine (way_eq _ _ _ _ _ _ _ _ _ _ _ (by assumption) _).mono ?_; rintro e w' ⟨rfl, rfl⟩)
    | (go_at_call 59; refine (uses_call _ _ _ _ _ _ _ _ _ _ _ _).mono ?_; rintro e w' ⟨rfl, rfl⟩)
    | go_in)
  go_ret
  exact ⟨rfl, by repeat' (first | exact Below.refl _ _ | refine Below.alloc ?_ (by first | exact Nat.le_refl _ | (simp only [World.size_alloc]; omega)) _)⟩
set_option maxRecDepth 100000 in
set_option maxHeartbeats 1000000 in
theorem is_other_yes (x0 x1 x2 x3 x4 x5 x6 x7 x8 x9 x10 : Int) (w : World) (h0 : betw x0 1 1099511627776 = true) (h1 : betw x1 1 4 = true) (h2 : betw x4 1 2 = true) (h3 : betw x5 0 3 = true) (h4 : betw x6 0 999 = true) (h5 : betw x7 0 99999 = true) (h6 : betw x8 1 999 = true) (h7 : x7 + x8 ≤ 100000) (h8 : betw x10 0 9 = true) (hk : x1 ≠ 3) (hz : wayB x2 x3 = true) : Calls Try.prog 30 #[.agg #[.int .i64 x0, .int .i64 x1, .int .i64 x2, .int .i64 x3, .int .i64 x4, .int .i64 x5, .int .i64 x6, .int .i64 x7, .int .i64 x8, .int .i64 x9, .int .i64 x10]] w fun e w' => e = .returned (.bool (usesB x1 x9)) ∧ Below w.heap.size w w' := by
  have k7 := of_decide_eq_true h5
  have k8 := of_decide_eq_true h6
  have ks : wrap64 (x7 + x8) = x7 + x8 := tw64 (by omega) (by omega)
  have e3 : (x1 == 3) = false := beq_eq_false_iff_ne.2 hk
  go_enter Try.func30, Try.ntmps30
  go_wp2_with (first
    | (go_at_call 53; refine (within_eq (by assumption) _).mono ?_; rintro e w' ⟨rfl, rfl⟩)
    | (go_at_call 57; refine (zones_eq _ _ _ _ _ _ _ _ _ _ _ (by assumption) _).mono ?_; rintro e w' ⟨rfl, rfl⟩)
    | (go_at_call 58; refine (way_eq _ _ _ _ _ _ _ _ _ _ _ (by assumption) _).mono ?_; rintro e w' ⟨rfl, rfl⟩)
    | (go_at_call 59; refine (uses_call _ _ _ _ _ _ _ _ _ _ _ _).mono ?_; rintro e w' ⟨rfl, rfl⟩)
    | go_in)
  go_ret
  exact ⟨rfl, by repeat' (first | exact Below.refl _ _ | refine Below.alloc ?_ (by first | exact Nat.le_refl _ | (simp only [World.size_alloc]; omega)) _)⟩
/-- Is it right? -/
def isB (x0 x1 x2 x3 x4 x5 x6 x7 x8 x9 x10 : Int) : Bool := betw x0 1 1099511627776 && betw x1 1 4 && betw x4 1 2 && betw x5 0 3 && betw x6 0 999 && betw x7 0 99999 && betw x8 1 999 && decide (x7 + x8 ≤ 100000) && betw x10 0 9 && (if x1 = 3 then zonesB x2 x3 else wayB x2 x3) && usesB x1 x9
theorem is_of (x0 x1 x2 x3 x4 x5 x6 x7 x8 x9 x10 : Int) (w : World) {b : Bool} (h : isB x0 x1 x2 x3 x4 x5 x6 x7 x8 x9 x10 = b) (hc : Calls Try.prog 30 #[.agg #[.int .i64 x0, .int .i64 x1, .int .i64 x2, .int .i64 x3, .int .i64 x4, .int .i64 x5, .int .i64 x6, .int .i64 x7, .int .i64 x8, .int .i64 x9, .int .i64 x10]] w fun e w' => e = .returned (.bool b) ∧ Below w.heap.size w w') : Calls Try.prog 30 #[.agg #[.int .i64 x0, .int .i64 x1, .int .i64 x2, .int .i64 x3, .int .i64 x4, .int .i64 x5, .int .i64 x6, .int .i64 x7, .int .i64 x8, .int .i64 x9, .int .i64 x10]] w fun e w' => e = .returned (.bool (isB x0 x1 x2 x3 x4 x5 x6 x7 x8 x9 x10)) ∧ Below w.heap.size w w' := h ▸ hc
theorem is_any (x0 x1 x2 x3 x4 x5 x6 x7 x8 x9 x10 : Int) (w : World) : Calls Try.prog 30 #[.agg #[.int .i64 x0, .int .i64 x1, .int .i64 x2, .int .i64 x3, .int .i64 x4, .int .i64 x5, .int .i64 x6, .int .i64 x7, .int .i64 x8, .int .i64 x9, .int .i64 x10]] w fun e w' => e = .returned (.bool (isB x0 x1 x2 x3 x4 x5 x6 x7 x8 x9 x10)) ∧ Below w.heap.size w w' := by
  cases h0 : betw x0 1 1099511627776
  · exact is_of x0 x1 x2 x3 x4 x5 x6 x7 x8 x9 x10 w (by unfold isB; rw [h0]; rfl) (is_no0 x0 x1 x2 x3 x4 x5 x6 x7 x8 x9 x10 w h0)
  cases h1 : betw x1 1 4
  · exact is_of x0 x1 x2 x3 x4 x5 x6 x7 x8 x9 x10 w (by unfold isB; rw [h0, h1]; rfl) (is_no1 x0 x1 x2 x3 x4 x5 x6 x7 x8 x9 x10 w h0 h1)
  cases h2 : betw x4 1 2
  · exact is_of x0 x1 x2 x3 x4 x5 x6 x7 x8 x9 x10 w (by unfold isB; rw [h0, h1, h2]; rfl) (is_no2 x0 x1 x2 x3 x4 x5 x6 x7 x8 x9 x10 w h0 h1 h2)
  cases h3 : betw x5 0 3
  · exact is_of x0 x1 x2 x3 x4 x5 x6 x7 x8 x9 x10 w (by unfold isB; rw [h0, h1, h2, h3]; rfl) (is_no3 x0 x1 x2 x3 x4 x5 x6 x7 x8 x9 x10 w h0 h1 h2 h3)
  cases h4 : betw x6 0 999
  · exact is_of x0 x1 x2 x3 x4 x5 x6 x7 x8 x9 x10 w (by unfold isB; rw [h0, h1, h2, h3, h4]; rfl) (is_no4 x0 x1 x2 x3 x4 x5 x6 x7 x8 x9 x10 w h0 h1 h2 h3 h4)
  cases h5 : betw x7 0 99999
  · exact is_of x0 x1 x2 x3 x4 x5 x6 x7 x8 x9 x10 w (by unfold isB; rw [h0, h1, h2, h3, h4, h5]; rfl) (is_no5 x0 x1 x2 x3 x4 x5 x6 x7 x8 x9 x10 w h0 h1 h2 h3 h4 h5)
  cases h6 : betw x8 1 999
  · exact is_of x0 x1 x2 x3 x4 x5 x6 x7 x8 x9 x10 w (by unfold isB; rw [h0, h1, h2, h3, h4, h5, h6]; rfl) (is_no6 x0 x1 x2 x3 x4 x5 x6 x7 x8 x9 x10 w h0 h1 h2 h3 h4 h5 h6)
  by_cases h7' : 100000 < x7 + x8
  · have h7 := h7'
    exact is_of x0 x1 x2 x3 x4 x5 x6 x7 x8 x9 x10 w (by unfold isB; rw [h0, h1, h2, h3, h4, h5, h6, decide_eq_false (by omega)]; rfl) (is_no7 x0 x1 x2 x3 x4 x5 x6 x7 x8 x9 x10 w h0 h1 h2 h3 h4 h5 h6 h7)
  have h7 : x7 + x8 ≤ 100000 := by omega
  cases h8 : betw x10 0 9
  · exact is_of x0 x1 x2 x3 x4 x5 x6 x7 x8 x9 x10 w (by unfold isB; rw [h0, h1, h2, h3, h4, h5, h6, decide_eq_true h7, h8]; rfl) (is_no8 x0 x1 x2 x3 x4 x5 x6 x7 x8 x9 x10 w h0 h1 h2 h3 h4 h5 h6 h7 h8)
  by_cases hk : x1 = 3
  · subst hk
    cases hz : zonesB x2 x3
    · exact is_of _ _ _ _ _ _ _ _ _ _ _ w (by unfold isB; rw [h0, h1, h2, h3, h4, h5, h6, decide_eq_true h7, h8, if_pos rfl, hz]; rfl) (is_season_no x0 x2 x3 x4 x5 x6 x7 x8 x9 x10 w h0 h2 h3 h4 h5 h6 h7 h8 hz)
    · exact is_of _ _ _ _ _ _ _ _ _ _ _ w (by unfold isB; rw [h0, h1, h2, h3, h4, h5, h6, decide_eq_true h7, h8, if_pos rfl, hz]; rfl) (is_season_yes x0 x2 x3 x4 x5 x6 x7 x8 x9 x10 w h0 h2 h3 h4 h5 h6 h7 h8 hz)
  · cases hz : wayB x2 x3
    · exact is_of _ _ _ _ _ _ _ _ _ _ _ w (by unfold isB; rw [h0, h1, h2, h3, h4, h5, h6, decide_eq_true h7, h8, if_neg hk, hz]; rfl) (is_other_no x0 x1 x2 x3 x4 x5 x6 x7 x8 x9 x10 w h0 h1 h2 h3 h4 h5 h6 h7 h8 hk hz)
    · exact is_of _ _ _ _ _ _ _ _ _ _ _ w (by unfold isB; rw [h0, h1, h2, h3, h4, h5, h6, decide_eq_true h7, h8, if_neg hk, hz]; rfl) (is_other_yes x0 x1 x2 x3 x4 x5 x6 x7 x8 x9 x10 w h0 h1 h2 h3 h4 h5 h6 h7 h8 hk hz)
end Go.Proofs.Ytdiijjdhofaodaa.G
