/- Small laws of ints that many plain laws share. -/
import Derived.Test.YtdiijjdhofaodaaPLx0
import Derived.Test.YtdiijjdhofaodaaGCovers
namespace Go.Proofs.Ytdiijjdhofaodaa.Pure
open Go Go.RowKit Go.Proofs.Ytdiijjdhofaodaa.G Go.Proofs.Ytdiijjdhofaodaa.PL Go.Proofs.YtdiijjdhofaodaaW.PrintWords Go.Proofs.YtdiijjdhofaodaaW.PrintLast Go.Proofs.YtdiijjdhofaodaaW.PrintMore
theorem w64 {x : Int} (h0 : -9223372036854775808 ≤ x) (h1 : x ≤ 9223372036854775807) : wrap64 x = x := by
  unfold wrap64
  omega
theorem i64_of {n : Int} (h : (Lit.int .i64 n).wf = true) : -9223372036854775808 ≤ n ∧ n ≤ 9223372036854775807 := by
  have h1 : IntKind.i64.min = -9223372036854775808 := rfl
  have h2 : IntKind.i64.max = 9223372036854775807 := rfl
  simp only [Lit.wf, Bool.and_eq_true, decide_eq_true_eq] at h
  omega
theorem coversR_in (x0 x1 x2 x3 x4 x5 x6 x7 x8 x9 x10 : Int) (s : Int) (h : isB x0 x1 x2 x3 x4 x5 x6 x7 x8 x9 x10 = true) (hs : 0 ≤ s ∧ s < 40) : coversR x0 x1 x2 x3 x4 x5 x6 x7 x8 x9 x10 s = ((if x1 = 3 then betw (zv s) x2 x3 else decide (mn x2 x3 ≤ s ∧ s ≤ mx x2 x3)), 0) := if_pos ⟨h, hs⟩
end Go.Proofs.Ytdiijjdhofaodaa.Pure
