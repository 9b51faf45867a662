/- A law for 'make([]T, 0, n)': an empty row of the call's own, with room. Conditions: 0 <= n, n times the element's bytes at most 2^48. -/
import Derived.Test.YtbakfengmehkkaaWWords
import Derived.Laws.MakeOwn
namespace Go.Proofs.YtbakfengmehkkaaW.PrintWords
open Go Go.RowKit
theorem gm_u8 (x : Int) : IntKind.u8.wrap x = x % 256 := rfl
theorem gm_u32 (x : Int) : IntKind.u32.wrap x = x % 4294967296 := rfl
theorem gm_tmod (x : Int) : (x % 4294967296).tmod 256 = x % 4294967296 % 256 := Int.tmod_eq_emod_of_nonneg (by omega)
section
variable {P : Program} {ops : Array Oper} {rest : List Oper} {o : Oper} {a : Act} {Q : Exit → Act → World → Prop} {α : Type}
theorem Kd.R_make0 (d : Kd α) {w0 W : World} (base e : Nat) (hgd : o.guard = none) {N : Tmp} (_hd : o.dst = some N) (t : TypeId) (x y : Operand) (ho : o.op = .makeSlice t x y) (n : Int) (hx : a.eval x = .int .i64 0) (hy : a.eval y = .int .i64 n)
    (ht : P.underlying t = some (.slice e)) (z : Value) (bytes : Nat) (hinfo : (P.info? e).map (fun i => (i.zero, i.size, i.bytes)) = some (some z, d.sz, bytes)) (_hz : z.cells.size = d.sz) (_hs0 : 0 < d.sz) (hb0 : 0 < bytes)
    (z0 : α) {ok okp : Nat → Prop} (_hzero : d.M W base okp z0 z.cells.toList) (_hok : ∀ k, okp k → ok k) (hfresh : ok W.heap.size) (h0 : 0 ≤ n) (hl : n.toNat * bytes ≤ 281474976710656) (HB : Below base w0 W) (hbase : base ≤ W.heap.size)
    (h : ∀ v1 w1, d.R e w1 base ok v1 [] → Below base w0 w1 → W.grownBy w1 none → (∃ b, v1.ownBlock = some b ∧ W.heap.size ≤ b) → wpList P ops Q rest (a.put o.dst v1) w1) : wpList P ops Q (o :: rest) a W := by
  obtain ⟨m, rfl⟩ := Int.eq_ofNat_of_zero_le h0
  simp only [Int.toNat_natCast] at hl
  obtain ⟨i0, hi, hzz⟩ := Option.map_eq_some_iff.1 hinfo
  simp only [Prod.mk.injEq] at hzz
  obtain ⟨hz0, hz1, hz2⟩ := hzz
  have hm : m ≤ 281474976710656 := Nat.le_trans (Nat.le_mul_of_pos_right _ hb0) hl
  obtain ⟨w1, hrun, hown, hg⟩ := run_make_own (P := P) (w := W) base t e i0 z d.sz ht hi hz0 hz1 .i64 .i64 m (by rw [hz2, Nat.mul_comm]; exact hl) (by unfold maxLen; omega) hbase
  refine event_run hgd (by simp only [execOp, ho, hx, hy]; simp [hrun]) (h _ _ ⟨fun k hk => ?_, [], hown, Reps.none _ _⟩ (HB.grown hg hbase (fun k e => by cases e)) hg ⟨W.heap.size, by simp [Value.ownBlock], Nat.le_refl _⟩)
  have : W.heap.size = k := by simpa [Value.ownBlock] using hk
  subst this
  exact hfresh
end
end Go.Proofs.YtbakfengmehkkaaW.PrintWords
