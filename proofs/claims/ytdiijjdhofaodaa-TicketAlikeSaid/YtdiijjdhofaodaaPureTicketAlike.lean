/- The walk of the law TicketAlike by hand, and its plain law: for any two tickets. -/
import Derived.Test.YtdiijjdhofaodaaGCovers
import Derived.Test.YtdiijjdhofaodaaPCost
namespace Go.Proofs.Ytdiijjdhofaodaa.Pure
open Go Go.RowKit Go.Proofs.Ytdiijjdhofaodaa.G Go.Proofs.Ytdiijjdhofaodaa.PL Go.Proofs.YtdiijjdhofaodaaW.PrintWords Go.Proofs.YtdiijjdhofaodaaW.PrintLast Go.Proofs.YtdiijjdhofaodaaW.PrintMore
theorem two_facts {w w1 : World} {x0 x1 x2 x3 x4 x5 x6 x7 x8 x9 x10 y0 y1 y2 y3 y4 y5 y6 y7 y8 y9 y10 : Int} (hb : Below ((w.alloc (.cells (tkA x0 x1 x2 x3 x4 x5 x6 x7 x8 x9 x10) 23)).alloc (.cells (tkA y0 y1 y2 y3 y4 y5 y6 y7 y8 y9 y10) 23)).heap.size ((w.alloc (.cells (tkA x0 x1 x2 x3 x4 x5 x6 x7 x8 x9 x10) 23)).alloc (.cells (tkA y0 y1 y2 y3 y4 y5 y6 y7 y8 y9 y10) 23)) w1) :
    Blk w1 w.heap.size (tkA x0 x1 x2 x3 x4 x5 x6 x7 x8 x9 x10) 23 ∧ Blk w1 (w.heap.size + 1) (tkA y0 y1 y2 y3 y4 y5 y6 y7 y8 y9 y10) 23 ∧ Below w.heap.size w w1 := by
  refine ⟨Blk.below ((Blk.new w _ _).alloc _) hb (by simp only [World.size_alloc]; omega), Blk.below (b := w.heap.size + 1) (by simpa using Blk.new (w.alloc (.cells (tkA x0 x1 x2 x3 x4 x5 x6 x7 x8 x9 x10) 23)) (tkA y0 y1 y2 y3 y4 y5 y6 y7 y8 y9 y10) 23) hb (by simp only [World.size_alloc]; omega), ?_⟩
  exact (((Below.refl _ w).alloc (Nat.le_refl _) _).alloc (by simp) _).trans (hb.mono (by simp only [World.size_alloc]; omega))
set_option maxRecDepth 100000 in
set_option maxHeartbeats 400000 in
theorem alike_same (x0 x1 x2 x3 x4 x5 x6 x7 x8 x9 x10 y0 y1 y2 y3 y4 y5 y6 y7 y8 y9 y10 a : Int) (w : World) (hp : ticket_Price.f 1 x0 x1 x2 x3 x4 x5 x6 x7 x8 x9 x10 = some (a, 0)) (hp0 : ticket_Price.f 1 y0 x1 x2 x3 x4 x5 y6 y7 x8 x9 y10 = some (a, 0)) (K : Nat) (hK : gatelinelaw09_sold.f K = some true) :
    Calls Try.prog 9 #[.agg #[.int .i64 x0, .int .i64 x1, .int .i64 x2, .int .i64 x3, .int .i64 x4, .int .i64 x5, .int .i64 x6, .int .i64 x7, .int .i64 x8, .int .i64 x9, .int .i64 x10], .agg #[.int .i64 y0, .int .i64 y1, .int .i64 y2, .int .i64 y3, .int .i64 y4, .int .i64 y5, .int .i64 y6, .int .i64 y7, .int .i64 y8, .int .i64 y9, .int .i64 y10]] w fun e w' => e = .returned (.bool true) ∧ Below w.heap.size w w' := by
  go_enter Try.func9, Try.ntmps9
  go_wp2_with (first
    | (go_at_call 32; refine (ticket_Price.calls 1 _ _ _ _ _ _ _ _ _ _ _ a 0 _ hp).mono ?_; rintro e w1 ⟨rfl, hb⟩; obtain ⟨bt, bu, HB⟩ := two_facts hb; obtain ⟨q0, q1, q2, q3, q4, q5, q6, q7, q8, q9, q10⟩ := bt.all; obtain ⟨u0, u1, u2, u3, u4, u5, u6, u7, u8, u9, u10⟩ := bu.all; have v0 : ∀ o, (w1.alloc o).cell? ⟨w.heap.size + 1, 0, none⟩ = some (.int .i64 y0) := fun o => (bu.alloc o).cell 0 _ rfl; have v6 : ∀ o, (w1.alloc o).cell? ⟨w.heap.size + 1, 6, none⟩ = some (.int .i64 y6) := fun o => (bu.alloc o).cell 6 _ rfl; have v7 : ∀ o, (w1.alloc o).cell? ⟨w.heap.size + 1, 7, none⟩ = some (.int .i64 y7) := fun o => (bu.alloc o).cell 7 _ rfl; have v10 : ∀ o, (w1.alloc o).cell? ⟨w.heap.size + 1, 10, none⟩ = some (.int .i64 y10) := fun o => (bu.alloc o).cell 10 _ rfl; clear hp)
    | (go_at_call 32; refine (ticket_Price.calls 1 _ _ _ _ _ _ _ _ _ _ _ a 0 _ hp0).mono ?_; rintro e w2 ⟨rfl, hb2⟩; have HC : Below w.heap.size w w2 := (HB.alloc HB.size _).trans (hb2.mono (by have := HB.size; simp; omega)); clear hp0)
    | (go_at_call 29; refine (gatelinelaw09_sold.calls K true _ hK).mono ?_; rintro e w3 ⟨rfl, hb3⟩))
  go_ret
  exact ⟨by simp [*], HC.trans (hb3.mono HC.size)⟩
set_option maxRecDepth 100000 in
set_option maxHeartbeats 400000 in
theorem alike_other (x0 x1 x2 x3 x4 x5 x6 x7 x8 x9 x10 y0 y1 y2 y3 y4 y5 y6 y7 y8 y9 y10 a b f : Int) (w : World) (hp : ticket_Price.f 1 x0 x1 x2 x3 x4 x5 x6 x7 x8 x9 x10 = some (a, 0)) (hp0 : ticket_Price.f 1 y0 x1 x2 x3 x4 x5 y6 y7 x8 x9 y10 = some (b, f)) (hf : f ≠ 0) (K : Nat) (hK : gatelinelaw09_sold.f K = some true) :
    Calls Try.prog 9 #[.agg #[.int .i64 x0, .int .i64 x1, .int .i64 x2, .int .i64 x3, .int .i64 x4, .int .i64 x5, .int .i64 x6, .int .i64 x7, .int .i64 x8, .int .i64 x9, .int .i64 x10], .agg #[.int .i64 y0, .int .i64 y1, .int .i64 y2, .int .i64 y3, .int .i64 y4, .int .i64 y5, .int .i64 y6, .int .i64 y7, .int .i64 y8, .int .i64 y9, .int .i64 y10]] w fun e w' => e = .returned (.bool true) ∧ Below w.heap.size w w' := by
  have f1 : (f == 0) = false := beq_eq_false_iff_ne.2 hf
  have f2 : (f != 0) = true := by simp [hf]
  go_enter Try.func9, Try.ntmps9
  go_wp2_with (first
    | (go_at_call 32; refine (ticket_Price.calls 1 _ _ _ _ _ _ _ _ _ _ _ a 0 _ hp).mono ?_; rintro e w1 ⟨rfl, hb⟩; obtain ⟨bt, bu, HB⟩ := two_facts hb; obtain ⟨q0, q1, q2, q3, q4, q5, q6, q7, q8, q9, q10⟩ := bt.all; obtain ⟨u0, u1, u2, u3, u4, u5, u6, u7, u8, u9, u10⟩ := bu.all; have v0 : ∀ o, (w1.alloc o).cell? ⟨w.heap.size + 1, 0, none⟩ = some (.int .i64 y0) := fun o => (bu.alloc o).cell 0 _ rfl; have v6 : ∀ o, (w1.alloc o).cell? ⟨w.heap.size + 1, 6, none⟩ = some (.int .i64 y6) := fun o => (bu.alloc o).cell 6 _ rfl; have v7 : ∀ o, (w1.alloc o).cell? ⟨w.heap.size + 1, 7, none⟩ = some (.int .i64 y7) := fun o => (bu.alloc o).cell 7 _ rfl; have v10 : ∀ o, (w1.alloc o).cell? ⟨w.heap.size + 1, 10, none⟩ = some (.int .i64 y10) := fun o => (bu.alloc o).cell 10 _ rfl; clear hp)
    | (go_at_call 32; refine (ticket_Price.calls 1 _ _ _ _ _ _ _ _ _ _ _ b f _ hp0).mono ?_; rintro e w2 ⟨rfl, hb2⟩; have HC : Below w.heap.size w w2 := (HB.alloc HB.size _).trans (hb2.mono (by have := HB.size; simp; omega)); clear hp0)
    | (go_at_call 29; refine (gatelinelaw09_sold.calls K true _ hK).mono ?_; rintro e w3 ⟨rfl, hb3⟩))
  go_ret
  exact ⟨by simp [*], HC.trans (hb3.mono HC.size)⟩
set_option maxRecDepth 100000 in
set_option maxHeartbeats 400000 in
theorem alike_not (x0 x1 x2 x3 x4 x5 x6 x7 x8 x9 x10 y0 y1 y2 y3 y4 y5 y6 y7 y8 y9 y10 g b f : Int) (w : World) (hp : ticket_Price.f 1 x0 x1 x2 x3 x4 x5 x6 x7 x8 x9 x10 = some (0, g)) (hp0 : ticket_Price.f 1 y0 x1 x2 x3 x4 x5 y6 y7 x8 x9 y10 = some (b, f)) (hg : g ≠ 0) (K : Nat) (hK : gatelinelaw09_sold.f K = some true) :
    Calls Try.prog 9 #[.agg #[.int .i64 x0, .int .i64 x1, .int .i64 x2, .int .i64 x3, .int .i64 x4, .int .i64 x5, .int .i64 x6, .int .i64 x7, .int .i64 x8, .int .i64 x9, .int .i64 x10], .agg #[.int .i64 y0, .int .i64 y1, .int .i64 y2, .int .i64 y3, .int .i64 y4, .int .i64 y5, .int .i64 y6, .int .i64 y7, .int .i64 y8, .int .i64 y9, .int .i64 y10]] w fun e w' => e = .returned (.bool true) ∧ Below w.heap.size w w' := by
  have g1 : (g == 0) = false := beq_eq_false_iff_ne.2 hg
  have g2 : (g != 0) = true := by simp [hg]
  go_enter Try.func9, Try.ntmps9
  go_wp2_with (first
    | (go_at_call 32; refine (ticket_Price.calls 1 _ _ _ _ _ _ _ _ _ _ _ 0 g _ hp).mono ?_; rintro e w1 ⟨rfl, hb⟩; obtain ⟨bt, bu, HB⟩ := two_facts hb; obtain ⟨q0, q1, q2, q3, q4, q5, q6, q7, q8, q9, q10⟩ := bt.all; obtain ⟨u0, u1, u2, u3, u4, u5, u6, u7, u8, u9, u10⟩ := bu.all; have v0 : ∀ o, (w1.alloc o).cell? ⟨w.heap.size + 1, 0, none⟩ = some (.int .i64 y0) := fun o => (bu.alloc o).cell 0 _ rfl; have v6 : ∀ o, (w1.alloc o).cell? ⟨w.heap.size + 1, 6, none⟩ = some (.int .i64 y6) := fun o => (bu.alloc o).cell 6 _ rfl; have v7 : ∀ o, (w1.alloc o).cell? ⟨w.heap.size + 1, 7, none⟩ = some (.int .i64 y7) := fun o => (bu.alloc o).cell 7 _ rfl; have v10 : ∀ o, (w1.alloc o).cell? ⟨w.heap.size + 1, 10, none⟩ = some (.int .i64 y10) := fun o => (bu.alloc o).cell 10 _ rfl; clear hp)
    | (go_at_call 32; refine (ticket_Price.calls 1 _ _ _ _ _ _ _ _ _ _ _ b f _ hp0).mono ?_; rintro e w2 ⟨rfl, hb2⟩; have HC : Below w.heap.size w w2 := (HB.alloc HB.size _).trans (hb2.mono (by have := HB.size; simp; omega)); clear hp0)
    | (go_at_call 29; refine (gatelinelaw09_sold.calls K true _ hK).mono ?_; rintro e w3 ⟨rfl, hb3⟩))
  go_ret
  exact ⟨by simp [*], HC.trans (hb3.mono HC.size)⟩
theorem TicketAlike_walk (x0 x1 x2 x3 x4 x5 x6 x7 x8 x9 x10 y0 y1 y2 y3 y4 y5 y6 y7 y8 y9 y10 : Int) (w : World) :
    Calls Try.prog 9 #[.agg #[.int .i64 x0, .int .i64 x1, .int .i64 x2, .int .i64 x3, .int .i64 x4, .int .i64 x5, .int .i64 x6, .int .i64 x7, .int .i64 x8, .int .i64 x9, .int .i64 x10], .agg #[.int .i64 y0, .int .i64 y1, .int .i64 y2, .int .i64 y3, .int .i64 y4, .int .i64 y5, .int .i64 y6, .int .i64 y7, .int .i64 y8, .int .i64 y9, .int .i64 y10]] w fun e w' => e = .returned (.bool true) ∧ Below w.heap.size w w' := by
  obtain ⟨K, e⟩ := sold_ev
  have e0 := e K (Nat.le_refl _)
  obtain ⟨⟨c1, c2⟩, hc, hz⟩ := core_some 0 x1 x2 x3 x4 x5 x8 x9
  have k1 := price_core 1 x0 x1 x2 x3 x4 x5 x6 x7 x8 x9 x10
  have k2 := price_core 1 y0 x1 x2 x3 x4 x5 y6 y7 x8 x9 y10
  rw [show core 1 x1 x2 x3 x4 x5 x8 x9 = some (c1, c2) from hc] at k1 k2
  by_cases h1 : isB x0 x1 x2 x3 x4 x5 x6 x7 x8 x9 x10 = true
  · rw [if_pos h1] at k1
    by_cases h3 : c2 = 0
    · subst h3
      by_cases h2 : isB y0 x1 x2 x3 x4 x5 y6 y7 x8 x9 y10 = true
      · rw [if_pos h2] at k2
        exact alike_same x0 x1 x2 x3 x4 x5 x6 x7 x8 x9 x10 y0 y1 y2 y3 y4 y5 y6 y7 y8 y9 y10 c1 w k1 k2 K e0
      · rw [if_neg h2] at k2
        exact alike_other x0 x1 x2 x3 x4 x5 x6 x7 x8 x9 x10 y0 y1 y2 y3 y4 y5 y6 y7 y8 y9 y10 c1 0 1 w k1 k2 (by decide) K e0
    · obtain rfl : c1 = 0 := hz.resolve_left h3
      by_cases h2 : isB y0 x1 x2 x3 x4 x5 y6 y7 x8 x9 y10 = true
      · rw [if_pos h2] at k2
        exact alike_not x0 x1 x2 x3 x4 x5 x6 x7 x8 x9 x10 y0 y1 y2 y3 y4 y5 y6 y7 y8 y9 y10 c2 0 c2 w k1 k2 h3 K e0
      · rw [if_neg h2] at k2
        exact alike_not x0 x1 x2 x3 x4 x5 x6 x7 x8 x9 x10 y0 y1 y2 y3 y4 y5 y6 y7 y8 y9 y10 c2 0 1 w k1 k2 h3 K e0
  · rw [if_neg h1] at k1
    by_cases h2 : isB y0 x1 x2 x3 x4 x5 y6 y7 x8 x9 y10 = true
    · rw [if_pos h2] at k2
      exact alike_not x0 x1 x2 x3 x4 x5 x6 x7 x8 x9 x10 y0 y1 y2 y3 y4 y5 y6 y7 y8 y9 y10 1 c1 c2 w k1 k2 (by decide) K e0
    · rw [if_neg h2] at k2
      exact alike_not x0 x1 x2 x3 x4 x5 x6 x7 x8 x9 x10 y0 y1 y2 y3 y4 y5 y6 y7 y8 y9 y10 1 0 1 w k1 k2 (by decide) K e0
end Go.Proofs.Ytdiijjdhofaodaa.Pure
