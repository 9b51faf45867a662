/- The contract of line.Stations, for any two numbers. -/
import Derived.Test.YtdiijjdhofaodaaGStations
import Derived.Test.YtdiijjdhofaodaaWRepsOne
import Derived.OwnWalk
namespace Go.Proofs.Ytdiijjdhofaodaa.G
open Go Go.RowKit Go.Proofs.YtdiijjdhofaodaaW.PrintWords Go.Proofs.YtdiijjdhofaodaaW.PrintLast Go.Proofs.YtdiijjdhofaodaaW.PrintMore
def stationsR (a b : Int) : List Int × Int := if 1 ≤ a ∧ a ≤ b ∧ b ≤ 6 then (stOf a b (List.range 40), 0) else ([], 1)
theorem reps_ints (w : World) (base : Nat) (ok : Nat → Prop) : ∀ xs : List Int, Reps ((Kd.int .i64).M w base ok) 1 xs (xs.map (Value.int .i64))
  | [] => Reps.none _ _
  | x :: xs => Reps.one (show (Kd.int .i64).M w base ok x [Value.int .i64 x] from rfl) (reps_ints w base ok xs)
theorem stations_out (a b : Int) (w : World) (h : ¬ (1 ≤ a ∧ a ≤ b ∧ b ≤ 6)) :
    Calls Try.prog 34 #[.int .i64 a, .int .i64 b] w fun e w' => e = .returned (.tuple #[.slice none 0 0, .int .i64 1]) ∧ Below w.heap.size w w' := by
  rcases (by omega : a < 1 ∨ (1 ≤ a ∧ b < a) ∨ (1 ≤ a ∧ a ≤ b ∧ 6 < b)) with h1 | ⟨h1, h2⟩ | ⟨h1, h2, h3⟩
  all_goals
    clear h
    go_enter Try.func34, Try.ntmps34
    go_wp2
    go_ret2
    exact ⟨rfl, ((Below.refl _ w).alloc (Nat.le_refl _) _).alloc (by simp) _⟩
theorem stations_all (a b : Int) (w : World) :
    Calls Try.prog 34 #[.int .i64 a, .int .i64 b] w fun e w' => ∃ v0_ : Value, e = .returned (.tuple #[v0_, .int .i64 (stationsR a b).2]) ∧ Kd.R (Kd.int .i64) 3 w' w.heap.size (fun _ => True) v0_ (stationsR a b).1 ∧ Below w.heap.size w w' := by
  unfold stationsR
  by_cases h : 1 ≤ a ∧ a ≤ b ∧ b ≤ 6
  · rw [if_pos h]
    refine (stations_in a b h.1 h.2.1 h.2.2 w).mono ?_
    rintro e w' ⟨v, rfl, hown, hb⟩
    exact ⟨v, rfl, ⟨fun _ _ => trivial, _, hown, reps_ints _ _ _ _⟩, hb⟩
  · rw [if_neg h]
    refine (stations_out a b w h).mono ?_
    rintro e w' ⟨rfl, hb⟩
    exact ⟨_, rfl, Kd.R_nil _ _ _ _ _, hb⟩
end Go.Proofs.Ytdiijjdhofaodaa.G
