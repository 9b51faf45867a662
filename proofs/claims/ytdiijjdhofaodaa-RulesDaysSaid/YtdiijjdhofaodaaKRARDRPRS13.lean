/- What the functions that this claim reaches do and answer: printed words and walks, walks by hand and plain laws, packed together, each with its own remark; printed rows are by the kit's print program, turned by this session. Conditions: those that each theorem states. -/
import Derived.Deep.Cut
import Derived.Test.YtdiijjdhofaodaaKRARDRPRS12
import Derived.Test.YtdiijjdhofaodaaKA2
import Derived.Test.YtdiijjdhofaodaaKA0
import Derived.Test.YtdiijjdhofaodaaKRARDRPRS10
section
namespace Go.Proofs.Ytdiijjdhofaodaa.G
open Go Go.RowKit Go.Proofs.YtdiijjdhofaodaaW.PrintWords Go.Proofs.YtdiijjdhofaodaaW.PrintLast Go.Proofs.YtdiijjdhofaodaaW.PrintMore
theorem plain_e (w : World) : Calls Try.prog 71 #[] w fun e w' => e = .returned (.agg #[.int .i64 42, .int .i64 1, .int .i64 10, .int .i64 20, .int .i64 2, .int .i64 0, .int .i64 0, .int .i64 10, .int .i64 2, .int .i64 1, .int .i64 0, .int .i64 1, .int .i64 0, .bool false]) ∧ Below w.heap.size w w' := by
  go_enter Try.func71, Try.ntmps71
  go_wp2
  exact bodyPost_ret (v := .agg #[.int .i64 42, .int .i64 1, .int .i64 10, .int .i64 20, .int .i64 2, .int .i64 0, .int .i64 0, .int .i64 10, .int .i64 2, .int .i64 1, .int .i64 0, .int .i64 1, .int .i64 0, .bool false]) (by simp [results, Try.results71, go_sem]) rfl ⟨rfl, below_alloc (Below.refl _ _) _⟩
theorem pass_v1 (w : World) : Calls Try.prog 35 #[.agg #[.int .i64 42, .int .i64 1, .int .i64 10, .int .i64 20, .int .i64 2, .int .i64 0, .int .i64 0, .int .i64 10, .int .i64 2, .int .i64 1, .int .i64 0, .int .i64 1, .int .i64 0, .bool false], .agg #[.int .i64 42, .int .i64 1, .int .i64 10, .int .i64 20, .int .i64 2, .int .i64 0, .int .i64 0, .int .i64 10, .int .i64 2, .int .i64 1, .int .i64 0], .int .i64 11, .int .i64 12, .bool false] w fun e w' => e = .returned (.tuple #[.agg #[.int .i64 0, .int .i64 13], .int .i64 0, .int .i64 0]) ∧ Below w.heap.size w w' := by
  have h := pass_any 42 1 10 20 2 0 0 10 2 1 0 1 0 false 42 1 10 20 2 0 0 10 2 1 0 11 12 false w
  rw [show passR 42 1 10 20 2 0 0 10 2 1 0 1 0 false 42 1 10 20 2 0 0 10 2 1 0 11 12 false = (0, 13, 0, 0) by decide +kernel] at h
  exact h
theorem pass_v2 (w : World) : Calls Try.prog 35 #[.agg #[.int .i64 42, .int .i64 1, .int .i64 10, .int .i64 20, .int .i64 2, .int .i64 0, .int .i64 0, .int .i64 10, .int .i64 2, .int .i64 1, .int .i64 0, .int .i64 1, .int .i64 0, .bool false], .agg #[.int .i64 42, .int .i64 1, .int .i64 10, .int .i64 20, .int .i64 2, .int .i64 0, .int .i64 0, .int .i64 10, .int .i64 2, .int .i64 1, .int .i64 0], .int .i64 9, .int .i64 12, .bool false] w fun e w' => e = .returned (.tuple #[.agg #[.int .i64 1, .int .i64 0], .int .i64 7, .int .i64 0]) ∧ Below w.heap.size w w' := by
  have h := pass_any 42 1 10 20 2 0 0 10 2 1 0 1 0 false 42 1 10 20 2 0 0 10 2 1 0 9 12 false w
  rw [show passR 42 1 10 20 2 0 0 10 2 1 0 1 0 false 42 1 10 20 2 0 0 10 2 1 0 9 12 false = (1, 0, 7, 0) by decide +kernel] at h
  exact h
theorem pass_v3 (w : World) : Calls Try.prog 35 #[.agg #[.int .i64 42, .int .i64 1, .int .i64 10, .int .i64 20, .int .i64 2, .int .i64 0, .int .i64 0, .int .i64 10, .int .i64 2, .int .i64 1, .int .i64 0, .int .i64 1, .int .i64 0, .bool false], .agg #[.int .i64 42, .int .i64 1, .int .i64 10, .int .i64 20, .int .i64 2, .int .i64 0, .int .i64 0, .int .i64 10, .int .i64 2, .int .i64 1, .int .i64 0], .int .i64 12, .int .i64 12, .bool false] w fun e w' => e = .returned (.tuple #[.agg #[.int .i64 1, .int .i64 0], .int .i64 8, .int .i64 0]) ∧ Below w.heap.size w w' := by
  have h := pass_any 42 1 10 20 2 0 0 10 2 1 0 1 0 false 42 1 10 20 2 0 0 10 2 1 0 12 12 false w
  rw [show passR 42 1 10 20 2 0 0 10 2 1 0 1 0 false 42 1 10 20 2 0 0 10 2 1 0 12 12 false = (1, 0, 8, 0) by decide +kernel] at h
  exact h
theorem pass_v4 (w : World) : Calls Try.prog 35 #[.agg #[.int .i64 42, .int .i64 1, .int .i64 10, .int .i64 20, .int .i64 2, .int .i64 0, .int .i64 0, .int .i64 10, .int .i64 2, .int .i64 1, .int .i64 0, .int .i64 1, .int .i64 0, .bool false], .agg #[.int .i64 42, .int .i64 1, .int .i64 10, .int .i64 20, .int .i64 2, .int .i64 0, .int .i64 0, .int .i64 10, .int .i64 2, .int .i64 1, .int .i64 0], .int .i64 12, .int .i64 12, .bool true] w fun e w' => e = .returned (.tuple #[.agg #[.int .i64 1, .int .i64 0], .int .i64 12, .int .i64 0]) ∧ Below w.heap.size w w' := by
  have h := pass_any 42 1 10 20 2 0 0 10 2 1 0 1 0 false 42 1 10 20 2 0 0 10 2 1 0 12 12 true w
  rw [show passR 42 1 10 20 2 0 0 10 2 1 0 1 0 false 42 1 10 20 2 0 0 10 2 1 0 12 12 true = (1, 0, 12, 0) by decide +kernel] at h
  exact h
theorem pass_v5 (w : World) : Calls Try.prog 35 #[.agg #[.int .i64 42, .int .i64 1, .int .i64 10, .int .i64 20, .int .i64 2, .int .i64 0, .int .i64 0, .int .i64 10, .int .i64 2, .int .i64 1, .int .i64 0, .int .i64 1, .int .i64 0, .bool false], .agg #[.int .i64 42, .int .i64 1, .int .i64 10, .int .i64 20, .int .i64 2, .int .i64 0, .int .i64 0, .int .i64 10, .int .i64 2, .int .i64 1, .int .i64 1], .int .i64 9, .int .i64 9, .bool false] w fun e w' => e = .returned (.tuple #[.agg #[.int .i64 1, .int .i64 0], .int .i64 5, .int .i64 0]) ∧ Below w.heap.size w w' := by
  have h := pass_any 42 1 10 20 2 0 0 10 2 1 0 1 0 false 42 1 10 20 2 0 0 10 2 1 1 9 9 false w
  rw [show passR 42 1 10 20 2 0 0 10 2 1 0 1 0 false 42 1 10 20 2 0 0 10 2 1 1 9 9 false = (1, 0, 5, 0) by decide +kernel] at h
  exact h
theorem pass_v6 (w : World) : Calls Try.prog 35 #[.agg #[.int .i64 42, .int .i64 1, .int .i64 10, .int .i64 20, .int .i64 2, .int .i64 0, .int .i64 0, .int .i64 10, .int .i64 2, .int .i64 1, .int .i64 0, .int .i64 1, .int .i64 0, .bool true], .agg #[.int .i64 42, .int .i64 1, .int .i64 10, .int .i64 20, .int .i64 2, .int .i64 0, .int .i64 0, .int .i64 10, .int .i64 2, .int .i64 1, .int .i64 1], .int .i64 11, .int .i64 12, .bool false] w fun e w' => e = .returned (.tuple #[.agg #[.int .i64 1, .int .i64 0], .int .i64 4, .int .i64 0]) ∧ Below w.heap.size w w' := by
  have h := pass_any 42 1 10 20 2 0 0 10 2 1 0 1 0 true 42 1 10 20 2 0 0 10 2 1 1 11 12 false w
  rw [show passR 42 1 10 20 2 0 0 10 2 1 0 1 0 true 42 1 10 20 2 0 0 10 2 1 1 11 12 false = (1, 0, 4, 0) by decide +kernel] at h
  exact h
theorem pass_v7 (w : World) : Calls Try.prog 35 #[.agg #[.int .i64 42, .int .i64 1, .int .i64 10, .int .i64 20, .int .i64 2, .int .i64 0, .int .i64 0, .int .i64 10, .int .i64 2, .int .i64 1, .int .i64 0, .int .i64 1, .int .i64 0, .bool true], .agg #[.int .i64 42, .int .i64 1, .int .i64 10, .int .i64 20, .int .i64 2, .int .i64 0, .int .i64 0, .int .i64 10, .int .i64 2, .int .i64 1, .int .i64 1], .int .i64 11, .int .i64 40, .bool false] w fun e w' => e = .returned (.tuple #[.agg #[.int .i64 0, .int .i64 0], .int .i64 0, .int .i64 1]) ∧ Below w.heap.size w w' := by
  have h := pass_any 42 1 10 20 2 0 0 10 2 1 0 1 0 true 42 1 10 20 2 0 0 10 2 1 1 11 40 false w
  rw [show passR 42 1 10 20 2 0 0 10 2 1 0 1 0 true 42 1 10 20 2 0 0 10 2 1 1 11 40 false = (0, 0, 0, 1) by decide +kernel] at h
  exact h
attribute [local go_sem high] PL.eqA25
set_option maxRecDepth 100000 in
set_option maxHeartbeats 4000000 in
theorem ruled_calls (w : World) : Calls Try.prog 37 #[] w fun e w' => e = .returned (.bool true) ∧ Below w.heap.size w w' := by
  go_enter Try.func37, Try.ntmps37
  go_upto_region 2 with (first | (go_at_call 71; refine (plain_e _).mono ?_; rintro e w1 ⟨rfl, hb⟩) | go_in)
  have E1 : Blk (w1.alloc (.cells #[.int .i64 42, .int .i64 1, .int .i64 10, .int .i64 20, .int .i64 2, .int .i64 0, .int .i64 0, .int .i64 10, .int .i64 2, .int .i64 1, .int .i64 0, .int .i64 1, .int .i64 0, .bool false] 48)) w1.heap.size #[.int .i64 42, .int .i64 1, .int .i64 10, .int .i64 20, .int .i64 2, .int .i64 0, .int .i64 0, .int .i64 10, .int .i64 2, .int .i64 1, .int .i64 0, .int .i64 1, .int .i64 0, .bool false] 48 := Blk.new _ _ _
  have B1 : Below w.heap.size w (w1.alloc (.cells #[.int .i64 42, .int .i64 1, .int .i64 10, .int .i64 20, .int .i64 2, .int .i64 0, .int .i64 0, .int .i64 10, .int .i64 2, .int .i64 1, .int .i64 0, .int .i64 1, .int .i64 0, .bool false] 48)) := below_alloc hb _
  have LN := hb.size
  clear hb
  generalize w1.alloc (.cells #[.int .i64 42, .int .i64 1, .int .i64 10, .int .i64 20, .int .i64 2, .int .i64 0, .int .i64 0, .int .i64 10, .int .i64 2, .int .i64 1, .int .i64 0, .int .i64 1, .int .i64 0, .bool false] 48) = W1 at *
  generalize w1.heap.size = n at *
  have e0 := E1.cell 0 _ rfl
  have e1 := E1.cell 1 _ rfl
  have e2 := E1.cell 2 _ rfl
  have e3 := E1.cell 3 _ rfl
  have e4 := E1.cell 4 _ rfl
  have e5 := E1.cell 5 _ rfl
  have e6 := E1.cell 6 _ rfl
  have e7 := E1.cell 7 _ rfl
  have e8 := E1.cell 8 _ rfl
  have e9 := E1.cell 9 _ rfl
  have e10 := E1.cell 10 _ rfl
  have e11 := E1.cell 11 _ rfl
  have e12 := E1.cell 12 _ rfl
  have e13 := E1.cell 13 _ rfl
  go_upto_region 3 with (first | (go_at_call 35; refine (pass_v1 _).mono ?_; rintro e w2 ⟨rfl, hb⟩) | go_in)
  have h1 := ((E1.below hb E1.lt).alloc (.cells #[.int .i64 0, .int .i64 13] 25))
  have hlt : n < w2.heap.size := (E1.below hb E1.lt).lt
  have hB := below_alloc (B1.trans (hb.mono B1.size)) (.cells #[.int .i64 0, .int .i64 13] 25)
  have E2 : Blk (w2.alloc (.cells #[.int .i64 0, .int .i64 13] 25)) n #[.int .i64 42, .int .i64 1, .int .i64 10, .int .i64 20, .int .i64 2, .int .i64 0, .int .i64 0, .int .i64 10, .int .i64 2, .int .i64 1, .int .i64 0, .int .i64 1, .int .i64 0, .bool false] 48 := h1
  have B2 : Below w.heap.size w (w2.alloc (.cells #[.int .i64 0, .int .i64 13] 25)) := hB
  have J2 : Blk (w2.alloc (.cells #[.int .i64 0, .int .i64 13] 25)) w2.heap.size #[.int .i64 0, .int .i64 13] 25 := Blk.new _ _ _
  clear e0 e1 e2 e3 e4 e5 e6 e7 e8 e9 e10 e11 e12 e13
  clear hb h1 hB E1 B1
  generalize w2.alloc (.cells #[.int .i64 0, .int .i64 13] 25) = W2 at *
  generalize w2.heap.size = m at *
  rename n < m => ltJ_
  have e0 := E2.cell 0 _ rfl
  have e1 := E2.cell 1 _ rfl
  have e2 := E2.cell 2 _ rfl
  have e3 := E2.cell 3 _ rfl
  have e4 := E2.cell 4 _ rfl
  have e5 := E2.cell 5 _ rfl
  have e6 := E2.cell 6 _ rfl
  have e7 := E2.cell 7 _ rfl
  have e8 := E2.cell 8 _ rfl
  have e9 := E2.cell 9 _ rfl
  have e10 := E2.cell 10 _ rfl
  have e11 := E2.cell 11 _ rfl
  have e12 := E2.cell 12 _ rfl
  have e13 := E2.cell 13 _ rfl
  go_upto_region 4 with (first | (go_at_call 35; refine (pass_v2 _).mono ?_; rintro e w3 ⟨rfl, hb⟩) | go_in)
  have h1 := ((E2.below hb E2.lt).alloc (.cells #[.int .i64 1, .int .i64 0] 25))
  have hlt : n < w3.heap.size := (E2.below hb E2.lt).lt
  have hJ := ((J2.below hb J2.lt).alloc (.cells #[.int .i64 1, .int .i64 0] 25))
  have ltJ : m < w3.heap.size := (J2.below hb J2.lt).lt
  have hB := below_alloc (B2.trans (hb.mono B2.size)) (.cells #[.int .i64 1, .int .i64 0] 25)
  have E3 : Blk (w3.alloc (.cells #[.int .i64 1, .int .i64 0] 25)) n #[.int .i64 42, .int .i64 1, .int .i64 10, .int .i64 20, .int .i64 2, .int .i64 0, .int .i64 0, .int .i64 10, .int .i64 2, .int .i64 1, .int .i64 0, .int .i64 1, .int .i64 0, .bool false] 48 := h1
  have J3 : Blk (w3.alloc (.cells #[.int .i64 1, .int .i64 0] 25)) m #[.int .i64 0, .int .i64 13] 25 := hJ
  have B3 : Below w.heap.size w (w3.alloc (.cells #[.int .i64 1, .int .i64 0] 25)) := hB
  clear e0 e1 e2 e3 e4 e5 e6 e7 e8 e9 e10 e11 e12 e13
  clear hb h1 hB E2 B2 hJ J2
  generalize w3.alloc (.cells #[.int .i64 1, .int .i64 0] 25) = W3 at *
  clear hlt
  clear ltJ
  have e0 := E3.cell 0 _ rfl
  have e1 := E3.cell 1 _ rfl
  have e2 := E3.cell 2 _ rfl
  have e3 := E3.cell 3 _ rfl
  have e4 := E3.cell 4 _ rfl
  have e5 := E3.cell 5 _ rfl
  have e6 := E3.cell 6 _ rfl
  have e7 := E3.cell 7 _ rfl
  have e8 := E3.cell 8 _ rfl
  have e9 := E3.cell 9 _ rfl
  have e10 := E3.cell 10 _ rfl
  have e11 := E3.cell 11 _ rfl
  have e12 := E3.cell 12 _ rfl
  have e13 := E3.cell 13 _ rfl
  go_upto_region 5 with (first | (go_at_call 35; refine (pass_v3 _).mono ?_; rintro e w4 ⟨rfl, hb⟩) | go_in)
  have h1 := ((E3.below hb E3.lt).alloc (.cells #[.int .i64 1, .int .i64 0] 25))
  have hlt : n < w4.heap.size := (E3.below hb E3.lt).lt
  have hJ := ((J3.below hb J3.lt).alloc (.cells #[.int .i64 1, .int .i64 0] 25))
  have ltJ : m < w4.heap.size := (J3.below hb J3.lt).lt
  have hB := below_alloc (B3.trans (hb.mono B3.size)) (.cells #[.int .i64 1, .int .i64 0] 25)
  have E4 : Blk (w4.alloc (.cells #[.int .i64 1, .int .i64 0] 25)) n #[.int .i64 42, .int .i64 1, .int .i64 10, .int .i64 20, .int .i64 2, .int .i64 0, .int .i64 0, .int .i64 10, .int .i64 2, .int .i64 1, .int .i64 0, .int .i64 1, .int .i64 0, .bool false] 48 := h1
  have J4 : Blk (w4.alloc (.cells #[.int .i64 1, .int .i64 0] 25)) m #[.int .i64 0, .int .i64 13] 25 := hJ
  have B4 : Below w.heap.size w (w4.alloc (.cells #[.int .i64 1, .int .i64 0] 25)) := hB
  clear e0 e1 e2 e3 e4 e5 e6 e7 e8 e9 e10 e11 e12 e13
  clear hb h1 hB E3 B3 hJ J3
  generalize w4.alloc (.cells #[.int .i64 1, .int .i64 0] 25) = W4 at *
  clear hlt
  clear ltJ
  have e0 := E4.cell 0 _ rfl
  have e1 := E4.cell 1 _ rfl
  have e2 := E4.cell 2 _ rfl
  have e3 := E4.cell 3 _ rfl
  have e4 := E4.cell 4 _ rfl
  have e5 := E4.cell 5 _ rfl
  have e6 := E4.cell 6 _ rfl
  have e7 := E4.cell 7 _ rfl
  have e8 := E4.cell 8 _ rfl
  have e9 := E4.cell 9 _ rfl
  have e10 := E4.cell 10 _ rfl
  have e11 := E4.cell 11 _ rfl
  have e12 := E4.cell 12 _ rfl
  have e13 := E4.cell 13 _ rfl
  go_upto_region 6 with (first | (go_at_call 35; refine (pass_v4 _).mono ?_; rintro e w5 ⟨rfl, hb⟩) | go_in)
  have h1 := ((E4.below hb E4.lt).alloc (.cells #[.int .i64 1, .int .i64 0] 25))
  have hlt : n < w5.heap.size := (E4.below hb E4.lt).lt
  have hJ := ((J4.below hb J4.lt).alloc (.cells #[.int .i64 1, .int .i64 0] 25))
  have ltJ : m < w5.heap.size := (J4.below hb J4.lt).lt
  have hB := below_alloc (B4.trans (hb.mono B4.size)) (.cells #[.int .i64 1, .int .i64 0] 25)
  have E5 : Blk (w5.alloc (.cells #[.int .i64 1, .int .i64 0] 25)) n #[.int .i64 42, .int .i64 1, .int .i64 10, .int .i64 20, .int .i64 2, .int .i64 0, .int .i64 0, .int .i64 10, .int .i64 2, .int .i64 1, .int .i64 0, .int .i64 1, .int .i64 0, .bool false] 48 := h1
  have J5 : Blk (w5.alloc (.cells #[.int .i64 1, .int .i64 0] 25)) m #[.int .i64 0, .int .i64 13] 25 := hJ
  have B5 : Below w.heap.size w (w5.alloc (.cells #[.int .i64 1, .int .i64 0] 25)) := hB
  clear e0 e1 e2 e3 e4 e5 e6 e7 e8 e9 e10 e11 e12 e13
  clear hb h1 hB E4 B4 hJ J4
  generalize w5.alloc (.cells #[.int .i64 1, .int .i64 0] 25) = W5 at *
  clear hlt
  clear ltJ
  have e0 := E5.cell 0 _ rfl
  have e1 := E5.cell 1 _ rfl
  have e2 := E5.cell 2 _ rfl
  have e3 := E5.cell 3 _ rfl
  have e4 := E5.cell 4 _ rfl
  have e5 := E5.cell 5 _ rfl
  have e6 := E5.cell 6 _ rfl
  have e7 := E5.cell 7 _ rfl
  have e8 := E5.cell 8 _ rfl
  have e9 := E5.cell 9 _ rfl
  have e10 := E5.cell 10 _ rfl
  have e11 := E5.cell 11 _ rfl
  have e12 := E5.cell 12 _ rfl
  have e13 := E5.cell 13 _ rfl
  go_upto_region 8 with (first | go_in)
  have E6 : Blk (W5.alloc (.cells #[.int .i64 42, .int .i64 1, .int .i64 10, .int .i64 20, .int .i64 2, .int .i64 0, .int .i64 0, .int .i64 10, .int .i64 2, .int .i64 1, .int .i64 1] 23)) n #[.int .i64 42, .int .i64 1, .int .i64 10, .int .i64 20, .int .i64 2, .int .i64 0, .int .i64 0, .int .i64 10, .int .i64 2, .int .i64 1, .int .i64 0, .int .i64 1, .int .i64 0, .bool false] 48 := E5.alloc _
  have J6 : Blk (W5.alloc (.cells #[.int .i64 42, .int .i64 1, .int .i64 10, .int .i64 20, .int .i64 2, .int .i64 0, .int .i64 0, .int .i64 10, .int .i64 2, .int .i64 1, .int .i64 1] 23)) m #[.int .i64 0, .int .i64 13] 25 := J5.alloc _
  have T6 : Blk (W5.alloc (.cells #[.int .i64 42, .int .i64 1, .int .i64 10, .int .i64 20, .int .i64 2, .int .i64 0, .int .i64 0, .int .i64 10, .int .i64 2, .int .i64 1, .int .i64 1] 23)) W5.heap.size #[.int .i64 42, .int .i64 1, .int .i64 10, .int .i64 20, .int .i64 2, .int .i64 0, .int .i64 0, .int .i64 10, .int .i64 2, .int .i64 1, .int .i64 1] 23 := Blk.new _ _ _
  have B6 : Below w.heap.size w (W5.alloc (.cells #[.int .i64 42, .int .i64 1, .int .i64 10, .int .i64 20, .int .i64 2, .int .i64 0, .int .i64 0, .int .i64 10, .int .i64 2, .int .i64 1, .int .i64 1] 23)) := below_alloc B5 _
  have ltT_ : n < W5.heap.size := E5.lt
  clear e0 e1 e2 e3 e4 e5 e6 e7 e8 e9 e10 e11 e12 e13
  clear E5 J5 B5
  generalize W5.alloc (.cells #[.int .i64 42, .int .i64 1, .int .i64 10, .int .i64 20, .int .i64 2, .int .i64 0, .int .i64 0, .int .i64 10, .int .i64 2, .int .i64 1, .int .i64 1] 23) = W6 at *
  generalize W5.heap.size = t at *
  have e0 := E6.cell 0 _ rfl
  have e1 := E6.cell 1 _ rfl
  have e2 := E6.cell 2 _ rfl
  have e3 := E6.cell 3 _ rfl
  have e4 := E6.cell 4 _ rfl
  have e5 := E6.cell 5 _ rfl
  have e6 := E6.cell 6 _ rfl
  have e7 := E6.cell 7 _ rfl
  have e8 := E6.cell 8 _ rfl
  have e9 := E6.cell 9 _ rfl
  have e10 := E6.cell 10 _ rfl
  have e11 := E6.cell 11 _ rfl
  have e12 := E6.cell 12 _ rfl
  have e13 := E6.cell 13 _ rfl
  have q0 := T6.cell 0 _ rfl
  have q1 := T6.cell 1 _ rfl
  have q2 := T6.cell 2 _ rfl
  have q3 := T6.cell 3 _ rfl
  have q4 := T6.cell 4 _ rfl
  have q5 := T6.cell 5 _ rfl
  have q6 := T6.cell 6 _ rfl
  have q7 := T6.cell 7 _ rfl
  have q8 := T6.cell 8 _ rfl
  have q9 := T6.cell 9 _ rfl
  have q10 := T6.cell 10 _ rfl
  go_upto_region 9 with (first | (go_at_call 35; refine (pass_v5 _).mono ?_; rintro e w7 ⟨rfl, hb⟩) | go_in)
  have h1 := ((E6.below hb E6.lt).alloc (.cells #[.int .i64 1, .int .i64 0] 25))
  have hlt : n < w7.heap.size := (E6.below hb E6.lt).lt
  have hJ := ((J6.below hb J6.lt).alloc (.cells #[.int .i64 1, .int .i64 0] 25))
  have ltJ : m < w7.heap.size := (J6.below hb J6.lt).lt
  have hT := ((T6.below hb T6.lt).alloc (.cells #[.int .i64 1, .int .i64 0] 25))
  have ltT : t < w7.heap.size := (T6.below hb T6.lt).lt
  have hB := below_alloc (B6.trans (hb.mono B6.size)) (.cells #[.int .i64 1, .int .i64 0] 25)
  have E7 : Blk (w7.alloc (.cells #[.int .i64 1, .int .i64 0] 25)) n #[.int .i64 42, .int .i64 1, .int .i64 10, .int .i64 20, .int .i64 2, .int .i64 0, .int .i64 0, .int .i64 10, .int .i64 2, .int .i64 1, .int .i64 0, .int .i64 1, .int .i64 0, .bool false] 48 := h1
  have J7 : Blk (w7.alloc (.cells #[.int .i64 1, .int .i64 0] 25)) m #[.int .i64 0, .int .i64 13] 25 := hJ
  have T7 : Blk (w7.alloc (.cells #[.int .i64 1, .int .i64 0] 25)) t #[.int .i64 42, .int .i64 1, .int .i64 10, .int .i64 20, .int .i64 2, .int .i64 0, .int .i64 0, .int .i64 10, .int .i64 2, .int .i64 1, .int .i64 1] 23 := hT
  have B7 : Below w.heap.size w (w7.alloc (.cells #[.int .i64 1, .int .i64 0] 25)) := hB
  clear e0 e1 e2 e3 e4 e5 e6 e7 e8 e9 e10 e11 e12 e13
  clear q0 q1 q2 q3 q4 q5 q6 q7 q8 q9 q10
  clear hb h1 hB E6 B6 hJ J6 hT T6
  generalize w7.alloc (.cells #[.int .i64 1, .int .i64 0] 25) = W7 at *
  clear hlt
  clear ltJ
  clear ltT
  have e13 := E7.cell 13 _ rfl
  have g13 := E7.frozen 13
  go_upto_region 10 with (first | go_in)
  have E8 : Blk (World.setCell W7 ⟨n, 13, none⟩ (.bool true)) n #[.int .i64 42, .int .i64 1, .int .i64 10, .int .i64 20, .int .i64 2, .int .i64 0, .int .i64 0, .int .i64 10, .int .i64 2, .int .i64 1, .int .i64 0, .int .i64 1, .int .i64 0, .bool true] 48 := blk_put E7 13 (.bool true) rfl
  have J8 : Blk (World.setCell W7 ⟨n, 13, none⟩ (.bool true)) m #[.int .i64 0, .int .i64 13] 25 := blk_far (p := ⟨n, 13, none⟩) J7 (by simp only; omega) _
  have T8 : Blk (World.setCell W7 ⟨n, 13, none⟩ (.bool true)) t #[.int .i64 42, .int .i64 1, .int .i64 10, .int .i64 20, .int .i64 2, .int .i64 0, .int .i64 0, .int .i64 10, .int .i64 2, .int .i64 1, .int .i64 1] 23 := blk_far (p := ⟨n, 13, none⟩) T7 (by simp only; omega) _
  have hn : w.heap.size ≤ n := LN
  have B8 : Below w.heap.size w (World.setCell W7 ⟨n, 13, none⟩ (.bool true)) := B7.setCell (p := ⟨n, 13, none⟩) hn _
  clear e13 g13 E7 B7 J7 T7
  generalize World.setCell W7 ⟨n, 13, none⟩ (.bool true) = W8 at *
  have e0 := E8.cell 0 _ rfl
  have e1 := E8.cell 1 _ rfl
  have e2 := E8.cell 2 _ rfl
  have e3 := E8.cell 3 _ rfl
  have e4 := E8.cell 4 _ rfl
  have e5 := E8.cell 5 _ rfl
  have e6 := E8.cell 6 _ rfl
  have e7 := E8.cell 7 _ rfl
  have e8 := E8.cell 8 _ rfl
  have e9 := E8.cell 9 _ rfl
  have e10 := E8.cell 10 _ rfl
  have e11 := E8.cell 11 _ rfl
  have e12 := E8.cell 12 _ rfl
  have e13 := E8.cell 13 _ rfl
  have q0 := T8.cell 0 _ rfl
  have q1 := T8.cell 1 _ rfl
  have q2 := T8.cell 2 _ rfl
  have q3 := T8.cell 3 _ rfl
  have q4 := T8.cell 4 _ rfl
  have q5 := T8.cell 5 _ rfl
  have q6 := T8.cell 6 _ rfl
  have q7 := T8.cell 7 _ rfl
  have q8 := T8.cell 8 _ rfl
  have q9 := T8.cell 9 _ rfl
  have q10 := T8.cell 10 _ rfl
  go_upto_region 11 with (first | (go_at_call 35; refine (pass_v6 _).mono ?_; rintro e w9 ⟨rfl, hb⟩) | go_in)
  have h1 := ((E8.below hb E8.lt).alloc (.cells #[.int .i64 1, .int .i64 0] 25))
  have hlt : n < w9.heap.size := (E8.below hb E8.lt).lt
  have hJ := ((J8.below hb J8.lt).alloc (.cells #[.int .i64 1, .int .i64 0] 25))
  have ltJ : m < w9.heap.size := (J8.below hb J8.lt).lt
  have hT := ((T8.below hb T8.lt).alloc (.cells #[.int .i64 1, .int .i64 0] 25))
  have ltT : t < w9.heap.size := (T8.below hb T8.lt).lt
  have hB := below_alloc (B8.trans (hb.mono B8.size)) (.cells #[.int .i64 1, .int .i64 0] 25)
  have E9 : Blk (w9.alloc (.cells #[.int .i64 1, .int .i64 0] 25)) n #[.int .i64 42, .int .i64 1, .int .i64 10, .int .i64 20, .int .i64 2, .int .i64 0, .int .i64 0, .int .i64 10, .int .i64 2, .int .i64 1, .int .i64 0, .int .i64 1, .int .i64 0, .bool true] 48 := h1
  have J9 : Blk (w9.alloc (.cells #[.int .i64 1, .int .i64 0] 25)) m #[.int .i64 0, .int .i64 13] 25 := hJ
  have T9 : Blk (w9.alloc (.cells #[.int .i64 1, .int .i64 0] 25)) t #[.int .i64 42, .int .i64 1, .int .i64 10, .int .i64 20, .int .i64 2, .int .i64 0, .int .i64 0, .int .i64 10, .int .i64 2, .int .i64 1, .int .i64 1] 23 := hT
  have B9 : Below w.heap.size w (w9.alloc (.cells #[.int .i64 1, .int .i64 0] 25)) := hB
  have K9 : Blk (w9.alloc (.cells #[.int .i64 1, .int .i64 0] 25)) w9.heap.size #[.int .i64 1, .int .i64 0] 25 := Blk.new _ _ _
  clear e0 e1 e2 e3 e4 e5 e6 e7 e8 e9 e10 e11 e12 e13
  clear q0 q1 q2 q3 q4 q5 q6 q7 q8 q9 q10
  clear hb h1 hB E8 B8 hJ J8 hT T8
  generalize w9.alloc (.cells #[.int .i64 1, .int .i64 0] 25) = W9 at *
  generalize w9.heap.size = k at *
  rename n < k => ltK_
  clear ltJ
  clear ltT
  have e0 := E9.cell 0 _ rfl
  have e1 := E9.cell 1 _ rfl
  have e2 := E9.cell 2 _ rfl
  have e3 := E9.cell 3 _ rfl
  have e4 := E9.cell 4 _ rfl
  have e5 := E9.cell 5 _ rfl
  have e6 := E9.cell 6 _ rfl
  have e7 := E9.cell 7 _ rfl
  have e8 := E9.cell 8 _ rfl
  have e9 := E9.cell 9 _ rfl
  have e10 := E9.cell 10 _ rfl
  have e11 := E9.cell 11 _ rfl
  have e12 := E9.cell 12 _ rfl
  have e13 := E9.cell 13 _ rfl
  have q0 := T9.cell 0 _ rfl
  have q1 := T9.cell 1 _ rfl
  have q2 := T9.cell 2 _ rfl
  have q3 := T9.cell 3 _ rfl
  have q4 := T9.cell 4 _ rfl
  have q5 := T9.cell 5 _ rfl
  have q6 := T9.cell 6 _ rfl
  have q7 := T9.cell 7 _ rfl
  have q8 := T9.cell 8 _ rfl
  have q9 := T9.cell 9 _ rfl
  have q10 := T9.cell 10 _ rfl
  go_upto_region 12 with (first | (go_at_call 35; refine (pass_v7 _).mono ?_; rintro e w10 ⟨rfl, hb⟩) | go_in)
  have h1 := ((E9.below hb E9.lt).alloc (.cells #[.int .i64 0, .int .i64 0] 25))
  have hlt : n < w10.heap.size := (E9.below hb E9.lt).lt
  have hJ := ((J9.below hb J9.lt).alloc (.cells #[.int .i64 0, .int .i64 0] 25))
  have ltJ : m < w10.heap.size := (J9.below hb J9.lt).lt
  have hT := ((T9.below hb T9.lt).alloc (.cells #[.int .i64 0, .int .i64 0] 25))
  have ltT : t < w10.heap.size := (T9.below hb T9.lt).lt
  have hK := ((K9.below hb K9.lt).alloc (.cells #[.int .i64 0, .int .i64 0] 25))
  have ltK : k < w10.heap.size := (K9.below hb K9.lt).lt
  have hB := below_alloc (B9.trans (hb.mono B9.size)) (.cells #[.int .i64 0, .int .i64 0] 25)
  have E10 : Blk (w10.alloc (.cells #[.int .i64 0, .int .i64 0] 25)) n #[.int .i64 42, .int .i64 1, .int .i64 10, .int .i64 20, .int .i64 2, .int .i64 0, .int .i64 0, .int .i64 10, .int .i64 2, .int .i64 1, .int .i64 0, .int .i64 1, .int .i64 0, .bool true] 48 := h1
  have J10 : Blk (w10.alloc (.cells #[.int .i64 0, .int .i64 0] 25)) m #[.int .i64 0, .int .i64 13] 25 := hJ
  have T10 : Blk (w10.alloc (.cells #[.int .i64 0, .int .i64 0] 25)) t #[.int .i64 42, .int .i64 1, .int .i64 10, .int .i64 20, .int .i64 2, .int .i64 0, .int .i64 0, .int .i64 10, .int .i64 2, .int .i64 1, .int .i64 1] 23 := hT
  have K10 : Blk (w10.alloc (.cells #[.int .i64 0, .int .i64 0] 25)) k #[.int .i64 1, .int .i64 0] 25 := hK
  have B10 : Below w.heap.size w (w10.alloc (.cells #[.int .i64 0, .int .i64 0] 25)) := hB
  clear e0 e1 e2 e3 e4 e5 e6 e7 e8 e9 e10 e11 e12 e13
  clear q0 q1 q2 q3 q4 q5 q6 q7 q8 q9 q10
  clear hb h1 hB E9 B9 hJ J9 hT T9 hK K9
  generalize w10.alloc (.cells #[.int .i64 0, .int .i64 0] 25) = W10 at *
  clear hlt
  clear ltJ
  clear ltT
  clear ltK
  have j0 := J10.cell 0 _ rfl
  have j1 := J10.cell 1 _ rfl
  have k0 := K10.cell 0 _ rfl
  have k1 := K10.cell 1 _ rfl
  go_wp2
  go_ret
  exact ⟨rfl, B10⟩
end Go.Proofs.Ytdiijjdhofaodaa.G
end
section
namespace Go.Proofs.Ytdiijjdhofaodaa.PL
open Go.RowKit Go.Proofs.YtdiijjdhofaodaaW.PrintWords Go.Proofs.YtdiijjdhofaodaaW.PrintLast Go.Proofs.YtdiijjdhofaodaaW.PrintMore
attribute [local go_sem] max2_int min2_int max_two min_two max_three min_three max_four min_four   -- for this text's walks alone
set_option linter.unusedVariables false
set_option linter.unusedSimpArgs false
attribute [local go_sem high] eqA23

/-! ### gatelinelaw25_ruled: function 37 (a contract proved by hand) -/
def gatelinelaw25_ruled.f  : Option (Bool) := some true
theorem gatelinelaw25_ruled.calls (r : Bool) (w : World) (h : gatelinelaw25_ruled.f  = some r) : Calls Try.prog 37 #[] w fun e w' => e = .returned (.bool r) ∧ Below w.heap.size w w' := by
  obtain rfl := Option.some.inj h
  exact G.ruled_calls w

end Go.Proofs.Ytdiijjdhofaodaa.PL
end
