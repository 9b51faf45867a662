/- A region that draws its order of evaluation, inside the body of a loop over a function: what is shown outside of a round (where 'take first' is allowed) holds inside, if no operation defers. -/
import Derived.OrdersIn
import Derived.Test.YtdiijjdhofaodaaWMore
namespace Go.Proofs.Ytdiijjdhofaodaa.G
open Go Go.RowKit
section
variable {F : Fence} {n : Nat} {P : Program} {ops : Array Oper} {Q : Exit → Act → World → Prop} {md : Region.Mode}
def noDefer (o : Oper) : Bool := match o.op with | .defer _ => false | _ => true
theorem noDefer_spec {o : Oper} (h : noDefer o = true) : ∀ c, o.op ≠ .defer c := by
  intro c hc
  simp [noDefer, hc] at h
theorem operIn_inRound {o : Oper} {l : Nat} {a : Act} {w : World} {K : Act → World → Prop} (hd : noDefer o = true) (h : o.wpIn F n P a w K Q) : o.wpIn (F.inRound l) n P a w K Q := by
  refine ⟨h.1, ?_⟩
  have h2 := h.2
  rw [Oper.semAt_eq _ _ _ (noDefer_spec hd)] at h2 ⊢
  exact h2
theorem wpOpIn_inRound {l i : Nat} {a : Act} {w : World} {K : Act → World → Prop} (hd : ops.toList.all noDefer = true) (h : wpOpIn F n P ops Q i K a w) : wpOpIn (F.inRound l) n P ops Q i K a w := by
  unfold wpOpIn at *
  cases ho : ops[i]? with
  | none => simpa [ho] using h
  | some o =>
    simp only [ho] at h ⊢
    have hdo : noDefer o = true := by
      obtain ⟨hi, he⟩ := Array.getElem?_eq_some_iff.1 ho
      rw [← he]
      exact List.all_eq_true.1 hd _ (by simp)
    split
    · rename_i hw
      rw [if_pos hw] at h
      exact operIn_inRound hdo h
    · rename_i hw
      rw [if_neg hw] at h
      exact h
theorem wpAnyIn_inRound {l : Nat} (hd : ops.toList.all noDefer = true) : ∀ (fuel : Nat) (listed : Array Bool) (a : Act) (w : World), wpAnyIn F n P md ops Q fuel listed a w → wpAnyIn (F.inRound l) n P md ops Q fuel listed a w
  | 0, _, _, _, h => h
  | fuel + 1, _, _, _, h => ⟨h.1, fun i hi => wpOpIn_mono (fun a w hh => wpAnyIn_inRound hd fuel _ a w hh) (wpOpIn_inRound hd (h.2 i hi))⟩
/-- The region's rest as a predicate of its own. -/
theorem any_capture {fuel : Nat} {listed : Array Bool} {a : Act} {w : World} (h : ∀ G : Nat → Array Bool → Act → World → Prop, (∀ f l a w, G f l a w = wpAnyIn F n P md ops Q f l a w) → G fuel listed a w) : wpAnyIn F n P md ops Q fuel listed a w := h _ fun _ _ _ _ => rfl
end
end Go.Proofs.Ytdiijjdhofaodaa.G
