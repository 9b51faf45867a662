/- What the functions that this claim reaches do and answer: printed words and walks, walks by hand and plain laws, packed together, each with its own remark; printed rows are by the kit's print program, turned by this session. Conditions: those that each theorem states. -/
import Derived.Below
import Derived.Deep.Draws
import Derived.Deep.AppendLies
import Derived.Maps.AppendAt
import Derived.OwnWalk
import Derived.Laws.BytesArg
import Derived.Laws.MakeOwn
import Derived.Laws.OwnMore
import Derived.Deep.OwnRows
import Derived.Tactics
import Derived.Lib.ConvBytes
import Derived.Laws.Slices
import Derived.WalkKit
import Derived.KernelRfl
import Derived.RowKit3
import Derived.Deep.LoopGhost
import Derived.Deep.QuietTactic
import Derived.BigQuiet
import Derived.WideLaws
import Derived.Deep.DeepCutAuto
import Derived.Deep.CutBlock
import Derived.Deep.RegionHeld3
import Derived.Laws.Rows
import Derived.Lib.AppendStr
import Derived.ArgAppend
import Derived.Laws.IdiomCopy
import Derived.RowKit
import Derived.OrdersHeld
import Derived.Laws.BitsLemmas
import Derived.ChangeShapes
import Derived.ChangeSame
import Derived.WideShapes
import Derived.Laws.StructEq
import Derived.Maps.OwnSet
import Derived.Maps.OwnOps
import Derived.Lib.Hide
import Derived.RangeFuncNested
import Derived.RangeFuncBound
import Derived.RangeFuncCalls
import Derived.RangeFuncLeaves
import Derived.RangeFuncBox
import Derived.Shelf.Abstract
import Derived.Shelf.RegionOpen
import Derived.OwnWalkIn
import Derived.TacticsInMore
import Derived.LoopNIn
import Derived.LoopIn
import Derived.Test.YtdiijjdhofaodaaProg
section
set_option linter.unusedVariables false
set_option linter.unusedSimpArgs false
namespace Go.Proofs.YtdiijjdhofaodaaW.PrintWords
open Go.RowKit


structure Aside0 (p : Prop) : Prop where mk :: (out : p)

structure Drawn0 (w w' : World) : Prop where mk :: (out : ∃ n, w' = w.drewN n)
theorem Drawn0.refl (w : World) : Drawn0 w w := ⟨⟨0, rfl⟩⟩
theorem Drawn0.step {w w' : World} (h : Drawn0 w w') (n : Nat) : Drawn0 w (w'.drewN n) := by
  obtain ⟨m, rfl⟩ := h
  exact ⟨⟨m + n, World.drewN_drewN ..⟩⟩
theorem Drawn0.grown {w w' : World} (h : Drawn0 w w') : Grown w w' := by
  obtain ⟨n, rfl⟩ := h
  induction n with
  | zero => exact Grown.refl _
  | succ n ih => rw [← World.drew_drewN]; exact Grown.drew ih
theorem Drawn0.below {w w' : World} (h : Drawn0 w w') : Below w.heap.size w w' := by
  obtain ⟨n, rfl⟩ := h
  induction n with
  | zero => exact Below.refl _ _
  | succ n ih => rw [← World.drew_drewN]; exact ih.drew



def rd (xs : List Int) (i : Int) : Int := xs.getD i.toNat 0
def bt (s : ByteArray) (i : Int) : Int := if h : i.toNat < s.size then ((s[i.toNat]'h).toNat : Int) else 0
theorem below_alloc {w W : World} (h : Below w.heap.size w W) (o : Obj) : Below w.heap.size w (W.alloc o) := h.alloc h.size o
theorem below_drew {B : Nat} {w W : World} (h : Below B w W) : Below B w W.drew := ⟨h.os, h.tape, h.output, h.size, h.block⟩
theorem pw_below_drewN {B : Nat} {w W : World} (h : Below B w W) (n : Nat) : Below B w (W.drewN n) := ⟨h.os, h.tape, h.output, h.size, h.block⟩
theorem below_then {B : Nat} {w w1 w2 : World} (h : Below B w w1) (hB : B ≤ w1.heap.size) (k : Below w1.heap.size w1 w2) : Below B w w2 :=
  h.trans ⟨k.os, k.tape, k.output, k.size, fun i hi => k.block i (Nat.lt_of_lt_of_le hi hB)⟩
theorem grown_of_below {w w1 : World} (h : Below w.heap.size w w1) (row : Option Nat) : w.grownBy w1 row := ⟨h.os, h.tape, h.output, h.size, fun i hi _ => h.block i hi⟩
theorem pw_cell_below {w w1 : World} (h : Below w.heap.size w w1) {a : Addr} {v : Value} (hc : w.cell? a = some v) : w1.cell? a = some v := (h.cell (World.block_lt_of_cell? w a hc)).trans hc

def ReadsInt (w : World) (k : IntKind) (A : Option Addr) (n : Nat) (xs : List Int) : Prop :=
  xs.length = n ∧ n ≤ 9223372036854775807 ∧ (0 < n → ∃ ad, A = some ad ∧ ∀ j, j < n → w.cell? (ad.add j) = some (.int k (xs.getD j 0)))
theorem ReadsInt.at_ {w : World} {k : IntKind} {A : Option Addr} {n : Nat} {xs : List Int} (h : ReadsInt w k A n xs) (i : Int) (h0 : 0 ≤ i) (h1 : i < n) : ∃ ad, A = some ad ∧ w.cell? (ad.add i.toNat) = some (.int k (rd xs i)) := by
  obtain ⟨ad, e, hc⟩ := h.2.2 (by omega)
  exact ⟨ad, e, hc _ (by omega)⟩
theorem ReadsInt.below {w w1 : World} {k : IntKind} {A : Option Addr} {n : Nat} {xs : List Int} (h : ReadsInt w k A n xs) (hb : Below w.heap.size w w1) : ReadsInt w1 k A n xs :=
  ⟨h.1, h.2.1, fun hn => by
    obtain ⟨ad, e, hc⟩ := h.2.2 hn
    exact ⟨ad, e, fun j hj => pw_cell_below hb (hc j hj)⟩⟩


theorem own_nil (W : World) (base : Nat) (e : TypeId) (size : Nat) : W.ownsRow base e size (.slice none 0 0) 0 [] := ⟨by simp, .inl ⟨rfl, rfl⟩⟩
theorem own_base {w : World} {base : Nat} {e : TypeId} {size n : Nat} {v : Value} {xs : List Value} (h : w.ownsRow base e size v n xs) (k : Nat) (hk : v.ownBlock = some k) : base ≤ k := by
  rcases h.2 with ⟨rfl, _⟩ | ⟨g, cap, cur, rfl, hb, _⟩
  · simp [Value.ownBlock] at hk
  · have : g = k := by simpa [Value.ownBlock] using hk
    omega
theorem own_lt {w : World} {base : Nat} {e : TypeId} {size n : Nat} {v : Value} {xs : List Value} (h : w.ownsRow base e size v n xs) (k : Nat) (hk : v.ownBlock = some k) : k < w.heap.size := by
  rcases h.2 with ⟨rfl, _⟩ | ⟨g, cap, cur, rfl, hb, hh, _⟩
  · simp [Value.ownBlock] at hk
  · have : g = k := by simpa [Value.ownBlock] using hk
    subst this
    exact (Array.getElem?_eq_some_iff.1 hh).1
theorem pw_own_below {w w1 : World} {base : Nat} {e : TypeId} {size n : Nat} {v : Value} {xs : List Value} (h : w.ownsRow base e size v n xs) (hb : Below w.heap.size w w1) : w1.ownsRow base e size v n xs :=
  h.kept (grown_of_below hb none) (by cases v.ownBlock <;> simp)

theorem own_other {w w1 : World} {base : Nat} {e : TypeId} {size n : Nat} {v : Value} {xs : List Value} (h : w.ownsRow base e size v n xs) {row : Option Nat} (hg : w.grownBy w1 row) (hne : v.ownBlock = none ∨ v.ownBlock ≠ row) : w1.ownsRow base e size v n xs := h.kept hg hne
section
variable {P : Program} {ops : Array Oper} {rest : List Oper} {o : Oper} {a : Act} {Q : Exit → Act → World → Prop}

end


section
variable {P : Program}

end
section
variable {P : Program} {ops : Array Oper} {rest : List Oper} {o : Oper} {a : Act} {Q : Exit → Act → World → Prop}
end


def LeO {α : Type} (a b : Option α) : Prop := ∀ r, a = some r → b = some r
theorem LeO.refl {α : Type} (a : Option α) : LeO a a := fun _ h => h
theorem LeO.none {α : Type} (b : Option α) : LeO Option.none b := fun _ h => by cases h
theorem LeO.trans {α : Type} {a b c : Option α} (h : LeO a b) (k : LeO b c) : LeO a c := fun r hr => k r (h r hr)
theorem LeO.ite {α : Type} {c : Prop} [Decidable c] {a a' b b' : Option α} (h : LeO a a') (k : LeO b b') : LeO (if c then a else b) (if c then a' else b') := by
  split
  · exact h
  · exact k
theorem LeO.bind {α β : Type} {a a' : Option α} {f f' : α → Option β} (h : LeO a a') (k : ∀ x, LeO (f x) (f' x)) : LeO (a.bind f) (a'.bind f') := by
  intro r hr
  obtain ⟨x, hx, hf⟩ := Option.bind_eq_some_iff.1 hr
  exact Option.bind_eq_some_iff.2 ⟨x, h x hx, k x r hf⟩
theorem LeO.map {α β : Type} {a a' : Option α} (f : α → β) (h : LeO a a') : LeO (a.map f) (a'.map f) := by
  intro r hr
  obtain ⟨x, hx, hf⟩ := Option.map_eq_some_iff.1 hr
  exact Option.map_eq_some_iff.2 ⟨x, h x hx, hf⟩
theorem more_rounds {α : Type} {g : Nat → Option α} (h : ∀ k, LeO (g k) (g (k + 1))) (k : Nat) : ∀ j, LeO (g k) (g (k + j))
  | 0 => LeO.refl _
  | j + 1 => (more_rounds h k j).trans (h (k + j))
theorem at_rounds {α : Type} {g : Nat → Option α} (h : ∀ k, LeO (g k) (g (k + 1))) {k k' : Nat} (hk : k ≤ k') {r : α} (hr : g k = some r) : g k' = some r := by
  have := more_rounds h k (k' - k) r hr
  rwa [Nat.add_sub_cancel' hk] at this

def Reps {α : Type} (R : α → List Value → Prop) (size : Nat) (ps : List α) (cs : List Value) : Prop :=
  cs.length = ps.length * size ∧ ∀ j p, ps[j]? = some p → R p ((cs.drop (j * size)).take size)
theorem Reps.none {α : Type} (R : α → List Value → Prop) (size : Nat) : Reps R size [] [] := ⟨by simp, fun j p h => by simp at h⟩
theorem Reps.imp_ {α : Type} {R R' : α → List Value → Prop} {size : Nat} {ps : List α} {cs : List Value} (h : Reps R size ps cs) (hR : ∀ p c, R p c → R' p c) : Reps R' size ps cs := ⟨h.1, fun j p hj => hR _ _ (h.2 j p hj)⟩

def ReadsRow {α : Type} (R : α → List Value → Prop) (size : Nat) (w : World) (A : Option Addr) (n : Nat) (ps : List α) : Prop :=
  ps.length = n ∧ n ≤ 9223372036854775807 ∧ (0 < n → ∃ ad, A = some ad ∧ ∀ j p, ps[j]? = some p → ∃ c, c.length = size ∧ R p c ∧ ∀ i u, c[i]? = some u → w.cell? (ad.add (j * size + i)) = some u)
theorem ReadsRow.imp_ {α : Type} {R R' : α → List Value → Prop} {size : Nat} {w w1 : World} {A : Option Addr} {n : Nat} {ps : List α} (h : ReadsRow R size w A n ps) (hb : Below w.heap.size w w1) (hR : ∀ p c, R p c → R' p c) : ReadsRow R' size w1 A n ps :=
  ⟨h.1, h.2.1, fun hn => by
    obtain ⟨ad, e, hc⟩ := h.2.2 hn
    refine ⟨ad, e, fun j p hj => ?_⟩
    obtain ⟨c, hs, hr, hcell⟩ := hc j p hj
    exact ⟨c, hs, hR _ _ hr, fun i u hu => pw_cell_below hb (hcell i u hu)⟩⟩
theorem own_reads_row {α : Type} {R : α → List Value → Prop} {w : World} {base n size : Nat} {e : TypeId} {v : Value} {ps : List α} {cs : List Value} (h : w.ownsRow base e size v n cs) (hR : Reps R size ps cs) (hn : ps.length = n) :
    ∃ A c, v = .slice A n c ∧ ReadsRow R size w A n ps := by
  rcases Nat.eq_zero_or_pos n with h0 | h0
  · rcases h.2 with ⟨rfl, rfl⟩ | ⟨g, cap, cur, rfl, _⟩
    · exact ⟨none, 0, rfl, hn, by omega, fun hp => absurd hp (by omega)⟩
    · exact ⟨_, cap, rfl, hn, by omega, fun hp => absurd hp (by omega)⟩
  · obtain ⟨g, cap, rfl, _, _⟩ := h.form h0
    have hm : n ≤ 9223372036854775807 := by
      rcases h.2 with ⟨_, h1⟩ | ⟨g', cap', cur, he, _, _, h1, h2, _⟩
      · omega
      · simp only [maxLen] at h2
        omega
    refine ⟨_, cap, rfl, hn, hm, fun _ => ⟨_, rfl, fun j p hj => ⟨(cs.drop (j * size)).take size, ?_, hR.2 j p hj, fun i u hu => ?_⟩⟩⟩
    · have hjl := (List.getElem?_eq_some_iff.1 hj).1
      have h1 : j * size + size ≤ cs.length := by rw [hR.1, ← Nat.succ_mul]; exact Nat.mul_le_mul_right _ hjl
      rw [List.length_take, List.length_drop]
      omega
    · refine h.cells (g := g) rfl _ u ?_
      rw [List.getElem?_take] at hu
      split at hu
      · rw [List.getElem?_drop] at hu
        exact hu
      · cases hu

section
variable {P : Program} {ops : Array Oper} {rest : List Oper} {o : Oper} {a : Act} {Q : Exit → Act → World → Prop}

end


theorem own_ne {w : World} {base : Nat} {e t : TypeId} {size n g : Nat} {v : Value} {xs : List Value} {cs : Array Value} (h : w.ownsRow base e size v n xs) (hg : w.heap[g]? = some (.cells cs t (0, 0))) (hne : e ≠ t) : some g ≠ v.ownBlock := by
  rcases h.2 with ⟨rfl, _⟩ | ⟨g', cap, cur, rfl, _, hh, _⟩
  · simp [Value.ownBlock]
  · intro he
    have : g = g' := by simpa [Value.ownBlock] using he
    subst this
    rw [hg] at hh
    injection hh with hh
    injection hh with _ ht
    exact hne ht.symm
theorem blk_set {w : World} {g : Nat} {t : TypeId} {cs : Array Value} (h : w.heap[g]? = some (.cells cs t (0, 0))) (i : Nat) (u : Value) : (w.setCell ⟨g, i, none⟩ u).heap[g]? = some (.cells (cs.setIfInBounds i u) t (0, 0)) := by
  simp [World.setCell, Array.getElem?_modify, h]
theorem blk_far {w : World} {g : Nat} {t : TypeId} {cs : Array Value} (h : w.heap[g]? = some (.cells cs t (0, 0))) {p : Addr} (hp : g ≠ p.block) (u : Value) : (w.setCell p u).heap[g]? = some (.cells cs t (0, 0)) := (Below.heap_setCell w p u g hp).trans h
theorem blk_lt {w : World} {g : Nat} {o : Obj} (h : w.heap[g]? = some o) : g < w.heap.size := (Array.getElem?_eq_some_iff.1 h).1
theorem blk_cell {w : World} {g : Nat} {t : TypeId} {cs : Array Value} (h : w.heap[g]? = some (.cells cs t (0, 0))) (i : Nat) : w.cell? ⟨g, i, none⟩ = cs[i]? := cell_of_row w g i cs t (0, 0) h
theorem blk_frozen {w : World} {g : Nat} {t : TypeId} {cs : Array Value} (h : w.heap[g]? = some (.cells cs t (0, 0))) (i : Nat) : w.frozen? ⟨g, i, none⟩ = false := by simp [World.frozen?, h]
def KeepBut (w w' : World) (g : Nat) (row : Option Nat) : Prop := w.heap.size ≤ w'.heap.size ∧ ∀ i, i < w.heap.size → i ≠ g → some i ≠ row → w'.heap[i]? = w.heap[i]?
theorem KeepBut.refl (w : World) (g : Nat) (row : Option Nat) : KeepBut w w g row := ⟨Nat.le_refl _, fun _ _ _ _ => rfl⟩
theorem KeepBut.of_below {w w1 : World} (h : Below w.heap.size w w1) (g : Nat) (row : Option Nat) : KeepBut w w1 g row := ⟨h.size, fun i hi _ _ => h.block i hi⟩
theorem KeepBut.trans {w w1 w2 : World} {g : Nat} {row row1 : Option Nat} (h : KeepBut w w1 g row) (k : KeepBut w1 w2 g row1) (hr : row1 = row ∨ ∃ b, row1 = some b ∧ w.heap.size ≤ b) : KeepBut w w2 g row :=
  ⟨Nat.le_trans h.1 k.1, fun i hi hg hn => by
    refine (k.2 i (Nat.lt_of_lt_of_le hi h.1) hg ?_).trans (h.2 i hi hg hn)
    rcases hr with rfl | ⟨b, rfl, hb⟩
    · exact hn
    · intro e
      injection e with e
      omega⟩

theorem KeepBut.blk {w w1 : World} {g g' : Nat} {row : Option Nat} {o : Obj} (h : KeepBut w w1 g row) (hb : w.heap[g']? = some o) (hg : g' ≠ g) (hr : some g' ≠ row) : w1.heap[g']? = some o := (h.2 g' (blk_lt hb) hg hr).trans hb
theorem KeepBut.own {w w1 : World} {g : Nat} {row : Option Nat} {base : Nat} {e : TypeId} {size n : Nat} {v : Value} {xs : List Value} (h : KeepBut w w1 g row) (ho : w.ownsRow base e size v n xs) (hg : v.ownBlock ≠ some g) (hr : v.ownBlock = none ∨ v.ownBlock ≠ row) : w1.ownsRow base e size v n xs := by
  obtain ⟨h1, h2⟩ := ho
  refine ⟨h1, ?_⟩
  rcases h2 with h2 | ⟨b, cap, cur, rfl, hb, hh, r⟩
  · exact .inl h2
  · refine .inr ⟨b, cap, cur, rfl, hb, h.blk hh ?_ ?_, r⟩
    · intro e
      exact hg (by rw [← e]; rfl)
    · rcases hr with hr | hr
      · simp [Value.ownBlock] at hr
      · exact hr

def Ev {α : Type} (g : Nat → Option α) (r : α) : Prop := ∃ K, ∀ k, K ≤ k → g k = some r
theorem Ev.of {α : Type} {g : Nat → Option α} {r : α} (hg : ∀ k, LeO (g k) (g (k + 1))) {k : Nat} (h : g k = some r) : Ev g r := ⟨k, fun _ hk => at_rounds hg hk h⟩
theorem Ev.bind {α β : Type} {g : Nat → Option α} {f : Nat → α → Option β} {a : α} {r : β} (h : Ev g a) (k : Ev (fun n => f n a) r) : Ev (fun n => (g n).bind (f n)) r := by
  obtain ⟨K, h⟩ := h
  obtain ⟨K', k⟩ := k
  refine ⟨max K K', fun n hn => ?_⟩
  have h1 := h n (by omega)
  have h2 := k n (by omega)
  simp only [h1, Option.bind_some]
  exact h2

theorem Ev.step {α : Type} {g f : Nat → Option α} {r : α} (h : ∀ k, g (k + 1) = f k) (k : Ev f r) : Ev g r := by
  obtain ⟨K, k⟩ := k
  refine ⟨K + 1, fun n hn => ?_⟩
  obtain ⟨m, rfl⟩ : ∃ m, n = m + 1 := ⟨n - 1, by omega⟩
  rw [h]
  exact k m (by omega)
theorem Ev.congr {α : Type} {g f : Nat → Option α} {r : α} (h : ∀ k, g k = f k) (k : Ev f r) : Ev g r := by
  obtain ⟨K, k⟩ := k
  exact ⟨K, fun n hn => (h n).trans (k n hn)⟩

section
variable {P : Program} {ops : Array Oper} {o : Oper} {a : Act} {Q : Exit → Act → World → Prop} {K : Act → World → Prop}
end

theorem own_weaken {w : World} {base base' : Nat} {e : TypeId} {size n : Nat} {v : Value} {xs : List Value} (h : w.ownsRow base e size v n xs) (hb : base' ≤ base) : w.ownsRow base' e size v n xs := by
  obtain ⟨h1, h2⟩ := h
  refine ⟨h1, ?_⟩
  rcases h2 with h2 | ⟨g, cap, cur, rfl, hg, r⟩
  · exact .inl h2
  · exact .inr ⟨g, cap, cur, rfl, Nat.le_trans hb hg, r⟩

section
variable {α : Type} {enc : α → Value} {d : α}
def rdOf (d : α) (xs : List α) (i : Int) : α := xs.getD i.toNat d
def ReadsOf (enc : α → Value) (d : α) (w : World) (A : Option Addr) (n : Nat) (xs : List α) : Prop :=
  xs.length = n ∧ n ≤ 9223372036854775807 ∧ (0 < n → ∃ ad, A = some ad ∧ ∀ j, j < n → w.cell? (ad.add j) = some (enc (xs.getD j d)))
theorem ReadsOf.at_ {w : World} {A : Option Addr} {n : Nat} {xs : List α} (h : ReadsOf enc d w A n xs) (i : Int) (h0 : 0 ≤ i) (h1 : i < n) : ∃ ad, A = some ad ∧ w.cell? (ad.add i.toNat) = some (enc (rdOf d xs i)) := by
  obtain ⟨ad, e, hc⟩ := h.2.2 (by omega)
  exact ⟨ad, e, hc _ (by omega)⟩
theorem ReadsOf.below {w w1 : World} {A : Option Addr} {n : Nat} {xs : List α} (h : ReadsOf enc d w A n xs) (hb : Below w.heap.size w w1) : ReadsOf enc d w1 A n xs :=
  ⟨h.1, h.2.1, fun hn => by
    obtain ⟨ad, e, hc⟩ := h.2.2 hn
    exact ⟨ad, e, fun j hj => pw_cell_below hb (hc j hj)⟩⟩
end
section
variable {α : Type} {P : Program} {ops : Array Oper} {rest : List Oper} {o : Oper} {a : Act} {Q : Exit → Act → World → Prop}
end


theorem blk_alloc {w : World} {g : Nat} {o : Obj} (h : w.heap[g]? = some o) (o' : Obj) : (w.alloc o').heap[g]? = some o := (Below.heap_alloc w o' g (blk_lt h)).trans h
theorem blk_drew {w : World} {g : Nat} {o : Obj} (h : w.heap[g]? = some o) : w.drew.heap[g]? = some o := h
theorem blk_drewN {w : World} {g : Nat} {o : Obj} (h : w.heap[g]? = some o) (n : Nat) : (w.drewN n).heap[g]? = some o := h
theorem blk_below {w w1 : World} {g : Nat} {o : Obj} (h : w.heap[g]? = some o) (hb : Below w.heap.size w w1) : w1.heap[g]? = some o := (hb.block g (blk_lt h)).trans h
theorem blk_new (w : World) (o : Obj) : (w.alloc o).heap[w.heap.size]? = some o := heap_alloc_new w o

section
variable {P : Program}
theorem results_ct {fn : Func} {p u : Tmp} {ty : TypeId} (h : fn.results = #[.cell p ty, .tmp u]) (tmps : Array Value) (w : World) (g : Nat) (t : TypeId) (cs : Array Value) (fr : Nat × Nat) (d : TypeDesc)
    (hp : tmps.getD p undef = .pointer (some ⟨g, 0, none⟩)) (hg : w.heap[g]? = some (.cells cs t fr))
    (hu : P.underlying ty = some d) (hd : (match d with | .struct _ | .array _ _ => true | _ => false) = true) (hi : (P.info? ty).map (·.size) = some cs.size) :
    (results fn tmps).run P w = .ok (.tuple #[.agg cs, tmps.getD u undef]) w := by
  have hp' : tmps[p]?.getD undef = .pointer (some ⟨g, 0, none⟩) := by simpa using hp
  simp [results, h, hp', asAddr, run_loadVar_row w g t ty cs fr d hg hu hd hi]
theorem results_ctt {fn : Func} {p u v : Tmp} {ty : TypeId} (h : fn.results = #[.cell p ty, .tmp u, .tmp v]) (tmps : Array Value) (w : World) (g : Nat) (t : TypeId) (cs : Array Value) (fr : Nat × Nat) (d : TypeDesc)
    (hp : tmps.getD p undef = .pointer (some ⟨g, 0, none⟩)) (hg : w.heap[g]? = some (.cells cs t fr))
    (hu : P.underlying ty = some d) (hd : (match d with | .struct _ | .array _ _ => true | _ => false) = true) (hi : (P.info? ty).map (·.size) = some cs.size) :
    (results fn tmps).run P w = .ok (.tuple #[.agg cs, tmps.getD u undef, tmps.getD v undef]) w := by
  have hp' : tmps[p]?.getD undef = .pointer (some ⟨g, 0, none⟩) := by simpa using hp
  simp [results, h, hp', asAddr, run_loadVar_row w g t ty cs fr d hg hu hd hi]
end

theorem own_le {w : World} {base n m c size : Nat} {e : TypeId} {A : Option Addr} {xs : List Value} (h : w.ownsRow base e size (.slice A m c) n xs) : m ≤ c := by
  rcases h.2 with ⟨he, _⟩ | ⟨g, cap, cur, he, _, _, hnc, _⟩
  · injection he with _ h2 h3
    omega
  · injection he with _ h2 h3
    omega
def OwnRow {α : Type} (R : α → List Value → Prop) (e : TypeId) (size : Nat) (w : World) (base : Nat) (v : Value) (ps : List α) : Prop :=
  ∃ inner, w.ownsRow base e size v ps.length inner ∧ Reps R size ps inner
section
variable {α : Type} {R R' : α → List Value → Prop} {e : TypeId} {size : Nat} {w w1 : World} {base : Nat} {v : Value} {ps : List α}
theorem OwnRow.none_ (R : α → List Value → Prop) (e : TypeId) (size : Nat) (w : World) (base : Nat) : OwnRow R e size w base (.slice none 0 0) [] := ⟨[], own_nil _ _ _ _, Reps.none _ _⟩
theorem OwnRow.imp_ (h : OwnRow R e size w base v ps) (hR : ∀ p c, R p c → R' p c) : OwnRow R' e size w base v ps := by
  obtain ⟨inner, ho, hr⟩ := h
  exact ⟨inner, ho, hr.imp_ hR⟩
theorem OwnRow.below (h : OwnRow R e size w base v ps) (hb : Below w.heap.size w w1) : OwnRow R e size w1 base v ps := by
  obtain ⟨inner, ho, hr⟩ := h
  exact ⟨inner, pw_own_below ho hb, hr⟩
theorem OwnRow.other (h : OwnRow R e size w base v ps) {row : Option Nat} (hg : w.grownBy w1 row) (hne : v.ownBlock = none ∨ v.ownBlock ≠ row) : OwnRow R e size w1 base v ps := by
  obtain ⟨inner, ho, hr⟩ := h
  exact ⟨inner, own_other ho hg hne, hr⟩
theorem OwnRow.keep (h : OwnRow R e size w base v ps) {g : Nat} {t : TypeId} {cells : Array Value} (hb : w.heap[g]? = some (.cells cells t (0, 0))) (ht : e ≠ t) (hk : KeepBut w w1 g none) : OwnRow R e size w1 base v ps := by
  obtain ⟨inner, ho, hr⟩ := h
  exact ⟨inner, hk.own ho (Ne.symm (own_ne ho hb ht)) (by cases v.ownBlock <;> simp), hr⟩
theorem OwnRow.reads (h : OwnRow R e size w base v ps) : ∃ A c, v = .slice A ps.length c ∧ ps.length ≤ c ∧ ReadsRow R size w A ps.length ps := by
  obtain ⟨inner, ho, hr⟩ := h
  obtain ⟨A, c, rfl, hrow⟩ := own_reads_row ho hr rfl
  exact ⟨A, c, rfl, own_le ho, hrow⟩
theorem OwnRow.lit (W : World) (base : Nat) {inner : List Value} (hr : Reps R size ps inner) (hb : base ≤ W.heap.size) (hm : ps.length ≤ 9223372036854775807) :
    OwnRow R e size (W.alloc (.cells inner.toArray e)) base (.slice (some ⟨W.heap.size, 0, none⟩) ps.length ps.length) ps := by
  have h := World.ownsRow_lit (base := base) (e := e) (size := size) W inner.toArray ps.length hb (by simpa [maxLen] using hm) (by simpa using hr.1)
  exact ⟨inner, by simpa using h, hr⟩
end
section
variable {P : Program} {ops : Array Oper} {rest : List Oper} {o : Oper} {a : Act} {Q : Exit → Act → World → Prop} {α : Type} {R : α → List Value → Prop}

end
section
variable {P : Program} {ops : Array Oper} {o : Oper} {a : Act} {Q : Exit → Act → World → Prop} {K : Act → World → Prop} {α : Type} {R : α → List Value → Prop}

end

section
variable {α : Type} {P : Program}
end


section
variable {P : Program} {ops : Array Oper} {rest : List Oper} {o : Oper} {a : Act} {Q : Exit → Act → World → Prop}
end


structure Kd (α : Type) where
  sz : Nat
  E : List Nat
  K : World → α → List Value → Prop
  M : World → Nat → (Nat → Prop) → α → List Value → Prop
  K_len : ∀ {w x cs}, K w x cs → cs.length = sz
  K_one : ∀ {w x cs}, K w x cs → ∀ u ∈ cs, u.oneCell' = true
  K_below : ∀ {w w1 : World} {x cs}, Below w.heap.size w w1 → K w x cs → K w1 x cs
  K_of_M : ∀ {w base ok x cs}, M w base ok x cs → K w x cs
  M_mono : ∀ {w base ok ok' x cs}, (∀ k, ok k → ok' k) → M w base ok x cs → M w base ok' x cs
  M_bound : ∀ {w : World} {base ok x cs}, M w base ok x cs → M w base (fun k => ok k ∧ base ≤ k ∧ k < w.heap.size ∧ ∃ q, q ∈ E ∧ ∃ cells, w.heap[k]? = some (.cells cells q (0, 0))) x cs
  M_move : ∀ {w w1 : World} {base ok x cs}, (∀ k, ok k → w1.heap[k]? = w.heap[k]?) → M w base ok x cs → M w1 base ok x cs
  M_lower : ∀ {w base base' ok x cs}, base' ≤ base → M w base ok x cs → M w base' ok x cs

theorem own_move {w w1 : World} {base : Nat} {e : TypeId} {size n : Nat} {v : Value} {xs : List Value} (h : w.ownsRow base e size v n xs) (hm : ∀ k, v.ownBlock = some k → w1.heap[k]? = w.heap[k]?) : w1.ownsRow base e size v n xs := by
  obtain ⟨h1, h2⟩ := h
  refine ⟨h1, ?_⟩
  rcases h2 with h2 | ⟨g, cap, cur, rfl, hg, hh, r⟩
  · exact .inl h2
  · exact .inr ⟨g, cap, cur, rfl, hg, (hm g (by simp [Value.ownBlock])).trans hh, r⟩
theorem own_typed {w : World} {base : Nat} {e : TypeId} {size n : Nat} {v : Value} {xs : List Value} (h : w.ownsRow base e size v n xs) (k : Nat) (hk : v.ownBlock = some k) : ∃ cells, w.heap[k]? = some (.cells cells e (0, 0)) := by
  rcases h.2 with ⟨rfl, _⟩ | ⟨g, cap, cur, rfl, hg, hh, r⟩
  · simp [Value.ownBlock] at hk
  · have : g = k := by simpa [Value.ownBlock] using hk
    subst this
    exact ⟨cur, hh⟩

namespace Kd

def C {α : Type} (d : Kd α) (w : World) (A : Option Addr) (n : Nat) (xs : List α) : Prop := ReadsRow (d.K w) d.sz w A n xs

def R {α : Type} (d : Kd α) (e : Nat) (w : World) (base : Nat) (ok : Nat → Prop) (v : Value) (xs : List α) : Prop :=
  (∀ k, v.ownBlock = some k → ok k) ∧ OwnRow (d.M w base (fun k => ok k ∧ some k ≠ v.ownBlock)) e d.sz w base v xs
section
variable {α : Type} {d : Kd α} {e : Nat} {w w1 : World} {base : Nat} {ok ok' : Nat → Prop} {v : Value} {xs : List α}
theorem C_below {A : Option Addr} {n : Nat} (h : d.C w A n xs) (hb : Below w.heap.size w w1) : d.C w1 A n xs := ReadsRow.imp_ h hb (fun _ _ hp => d.K_below hb hp)
theorem R_nil (d : Kd α) (e : Nat) (w : World) (base : Nat) (ok : Nat → Prop) : d.R e w base ok (.slice none 0 0) [] := ⟨fun k hk => by simp [Value.ownBlock] at hk, OwnRow.none_ _ _ _ _ _⟩
theorem R_mono (h : d.R e w base ok v xs) (hok : ∀ k, ok k → ok' k) : d.R e w base ok' v xs := ⟨fun k hk => hok k (h.1 k hk), h.2.imp_ (fun _ _ hp => d.M_mono (fun k hk => ⟨hok k hk.1, hk.2⟩) hp)⟩
theorem R_bound (h : d.R e w base ok v xs) : d.R e w base (fun k => ok k ∧ base ≤ k ∧ k < w.heap.size ∧ ∃ q, q ∈ e :: d.E ∧ ∃ cells, w.heap[k]? = some (.cells cells q (0, 0))) v xs := by
  obtain ⟨h0, inner, ho, hr⟩ := h
  refine ⟨fun k hk => ?_, inner, ho, hr.imp_ (fun _ _ hp => d.M_mono (fun k hk => ?_) (d.M_bound hp))⟩
  · obtain ⟨cells, hc⟩ := own_typed ho k hk
    exact ⟨h0 k hk, own_base ho k hk, own_lt ho k hk, e, List.mem_cons_self, cells, hc⟩
  · obtain ⟨⟨h1, h2⟩, h3, h4, q, hq, hc⟩ := hk
    exact ⟨⟨h1, h3, h4, q, List.mem_cons_of_mem _ hq, hc⟩, h2⟩
theorem R_move (h : d.R e w base ok v xs) (hm : ∀ k, ok k → w1.heap[k]? = w.heap[k]?) : d.R e w1 base ok v xs := by
  obtain ⟨h0, inner, ho, hr⟩ := h
  exact ⟨h0, inner, own_move ho (fun k hk => hm k (h0 k hk)), hr.imp_ (fun _ _ hp => d.M_move (fun k hk => hm k hk.1) hp)⟩
theorem R_lower {base' : Nat} (h : d.R e w base ok v xs) (hb : base' ≤ base) : d.R e w base' ok v xs := by
  obtain ⟨h0, inner, ho, hr⟩ := h
  exact ⟨h0, inner, own_weaken ho hb, hr.imp_ (fun _ _ hp => d.M_lower hb hp)⟩

theorem R_reads (h : d.R e w base ok v xs) : ∃ A c, v = .slice A xs.length c ∧ xs.length ≤ c ∧ d.C w A xs.length xs := by
  obtain ⟨A, c, he, hl, hr⟩ := OwnRow.reads h.2
  exact ⟨A, c, he, hl, hr.imp_ (Below.refl _ _) (fun _ _ hp => d.K_of_M hp)⟩
end


def scalar {α : Type} (enc : α → Value) (h1 : ∀ x, (enc x).oneCell' = true) : Kd α where
  sz := 1
  E := []
  K := fun _ x cs => cs = [enc x]
  M := fun _ _ _ x cs => cs = [enc x]
  K_len := fun h => by rw [h]; rfl
  K_one := fun h u hu => by
    rw [h] at hu
    rw [List.mem_singleton.1 hu]
    exact h1 _
  K_below := fun _ h => h
  K_of_M := fun h => h
  M_mono := fun _ h => h
  M_bound := fun h => h
  M_move := fun _ h => h
  M_lower := fun _ h => h
def int (k : IntKind) : Kd Int := scalar (Value.int k) (fun _ => rfl)
def bool : Kd Bool := scalar Value.bool (fun _ => rfl)
def slice {α : Type} (e : Nat) (d : Kd α) : Kd (List α) where
  sz := 1
  E := e :: d.E
  K := fun w xs cs => ∃ A c, cs = [.slice A xs.length c] ∧ xs.length ≤ c ∧ d.C w A xs.length xs
  M := fun w base ok xs cs => ∃ v, cs = [v] ∧ d.R e w base ok v xs
  K_len := by
    rintro w x cs ⟨A, c, rfl, _⟩
    rfl
  K_one := by
    rintro w x cs ⟨A, c, rfl, _⟩ u hu
    rw [List.mem_singleton.1 hu]
    rfl
  K_below := by
    rintro w w1 x cs hb ⟨A, c, rfl, hl, hr⟩
    exact ⟨A, c, rfl, hl, C_below hr hb⟩
  K_of_M := by
    rintro w base ok x cs ⟨v, rfl, h⟩
    obtain ⟨A, c, rfl, hl, hr⟩ := R_reads h
    exact ⟨A, c, rfl, hl, hr⟩
  M_mono := by
    rintro w base ok ok' x cs hok ⟨v, rfl, h⟩
    exact ⟨v, rfl, R_mono h hok⟩
  M_bound := by
    rintro w base ok x cs ⟨v, rfl, h⟩
    exact ⟨v, rfl, R_bound h⟩
  M_move := by
    rintro w w1 base ok x cs hm ⟨v, rfl, h⟩
    exact ⟨v, rfl, R_move h hm⟩
  M_lower := by
    rintro w base base' ok x cs hb ⟨v, rfl, h⟩
    exact ⟨v, rfl, R_lower h hb⟩

def bot {α : Type} (sz : Nat) (E : List Nat) : Kd α where
  sz := sz
  E := E
  K := fun _ _ _ => False
  M := fun _ _ _ _ _ => False
  K_len := fun h => h.elim
  K_one := fun h => h.elim
  K_below := fun _ h => h
  K_of_M := fun h => h
  M_mono := fun _ h => h
  M_bound := fun h => h
  M_move := fun _ h => h
  M_lower := fun _ h => h

def upto {α : Type} (F : Kd α → Kd α) (sz : Nat) (E : List Nat) : Nat → Kd α
  | 0 => bot sz E
  | n + 1 => F (upto F sz E n)

section
variable {P : Program} {ops : Array Oper} {rest : List Oper} {o : Oper} {a : Act} {Q : Exit → Act → World → Prop} {α : Type}

end
section
variable {P : Program} {ops : Array Oper} {o : Oper} {a : Act} {Q : Exit → Act → World → Prop} {Kc : Act → World → Prop} {α : Type}
end

theorem reads_of_C {α : Type} {enc : α → Value} {d : α} {h1 : ∀ x, (enc x).oneCell' = true} {w : World} {A : Option Addr} {n : Nat} {xs : List α} (h : (scalar enc h1).C w A n xs) : ReadsOf enc d w A n xs := by
  refine ⟨h.1, h.2.1, fun hn => ?_⟩
  obtain ⟨ad, e, hc⟩ := h.2.2 hn
  refine ⟨ad, e, fun j hj => ?_⟩
  have hl : j < xs.length := by have := h.1; omega
  obtain ⟨c, _, hK, hcell⟩ := hc j _ (List.getElem?_eq_getElem hl)
  have hK' : c = [enc xs[j]] := hK
  subst hK'
  have := hcell 0 _ rfl
  simpa [scalar, List.getD_eq_getElem?_getD, List.getElem?_eq_getElem hl] using this
end Kd

namespace Kd

structure Mono {α β : Type} (F : Kd α → Kd β) : Prop where
  sz : ∀ d d' : Kd α, d.sz = d'.sz → (F d).sz = (F d').sz
  K : ∀ d d' : Kd α, d.sz = d'.sz → (∀ w x cs, d.K w x cs → d'.K w x cs) → ∀ w x cs, (F d).K w x cs → (F d').K w x cs
  M : ∀ d d' : Kd α, d.sz = d'.sz → (∀ w base ok x cs, d.M w base ok x cs → d'.M w base ok x cs) → ∀ w base ok x cs, (F d).M w base ok x cs → (F d').M w base ok x cs
section
variable {α : Type} {F : Kd α → Kd α} {sz : Nat} {E : List Nat} {hs : ∀ n, (upto F sz E n).sz = sz} {hE : ∀ n q, q ∈ (upto F sz E n).E → q ∈ E}
end
end Kd

namespace Kd

end Kd

namespace Kd
section
variable {α β : Type} {d : Kd α} {d' : Kd β} {e e' : Nat} {w w1 W : World} {base b b' : Nat} {ok ok' okv oku : Nat → Prop} {v u : Value} {xs : List α} {ys : List β}
end

section
variable {w W : World} {A : Option Addr} {n : Nat}
theorem at_int {k : IntKind} {xs : List Int} (h : (Kd.int k).C w A n xs) (i : Int) (h0 : 0 ≤ i) (h1 : i < n) : ∃ ad, A = some ad ∧ w.cell? (ad.add i.toNat) = some (.int k (rd xs i)) :=
  ReadsOf.at_ (reads_of_C (enc := Value.int k) (d := (0 : Int)) (h1 := fun _ => rfl) h) i h0 h1
variable {α : Type} {enc : α → Value} {h1 : ∀ x, (enc x).oneCell' = true} {e base g cap : Nat} {ok : Nat → Prop} {xs : List α}
end


section
variable {P : Program} {ops : Array Oper} {rest : List Oper} {o : Oper} {a : Act} {Q : Exit → Act → World → Prop}
theorem event_run {W w1 : World} {v : Value} (hgd : o.guard = none) (hrun : (execOp a.eval o).run P W = .ok (.value v) w1) (h : wpList P ops Q rest (a.put o.dst v) w1) : wpList P ops Q (o :: rest) a W := by
  refine wpList_plain hgd fun K hK => ?_
  unfold Oper.wp
  rw [hrun]
  exact hK _ _ h
variable {α : Type}

end
end Kd

section
variable {P : Program}
end

def QRow (w : World) (base : Nat) (e : TypeId) (size : Nat) (v : Value) (n : Nat) (xs : List Value) : Prop :=
  xs.length = n * size ∧
  ((n = 0 ∧ ∃ A, v = .slice A 0 0 ∧ ∀ a, A = some a → base ≤ a.block ∧ ∃ cur, w.heap[a.block]? = some (.cells cur e (0, 0))) ∨
   ∃ g off cap cur, v = .slice (some ⟨g, off * size, none⟩) n cap ∧ base ≤ g ∧ w.heap[g]? = some (.cells cur e (0, 0)) ∧ n ≤ cap ∧ off + cap ≤ maxLen ∧ cur.size = (off + cap) * size ∧ (cur.toList.drop (off * size)).take (n * size) = xs)
section
variable {w w1 : World} {base n size : Nat} {e : TypeId} {v : Value} {xs : List Value}
end
section
variable {P : Program}
end

namespace Kd
def Q {α : Type} (d : Kd α) (e : Nat) (w : World) (base : Nat) (ok : Nat → Prop) (v : Value) (xs : List α) : Prop :=
  (∀ k, v.ownBlock = some k → ok k) ∧ ∃ inner, QRow w base e d.sz v xs.length inner ∧ Reps (d.M w base (fun k => ok k ∧ some k ≠ v.ownBlock)) d.sz xs inner
section
variable {α : Type} {d : Kd α} {e : Nat} {w w1 W : World} {base : Nat} {ok ok' : Nat → Prop} {v : Value} {xs : List α}
end
section
variable {P : Program} {ops : Array Oper} {rest : List Oper} {o : Oper} {a : Act} {Q' : Exit → Act → World → Prop} {Kc : Act → World → Prop} {α : Type}
end
end Kd

namespace Kd
section
variable {α : Type} {d : Kd α} {e e' : Nat} {w w1 W : World} {base : Nat} {ok : Nat → Prop} {u v : Value} {xs : List α}
end
end Kd
namespace Kd
section
variable {α : Type} {d : Kd α} {e base g n cap : Nat} {ok okp : Nat → Prop} {W : World} {xs : List α}

end
end Kd

namespace Kd
section
variable {α : Type} {F : Kd α → Kd α} {sz : Nat} {E : List Nat} {hs : ∀ n, (upto F sz E n).sz = sz} {hE : ∀ n q, q ∈ (upto F sz E n).E → q ∈ E}
end
end Kd

namespace Kd
section
variable {P : Program} {ops : Array Oper} {rest : List Oper} {o : Oper} {a : Act} {Q : Exit → Act → World → Prop} {α : Type}

end
end Kd

namespace Kd
section
variable {P : Program} {ops : Array Oper} {rest : List Oper} {o : Oper} {a : Act} {Q : Exit → Act → World → Prop} {α : Type}

end
end Kd

namespace Kd
section
variable {α : Type} {k : Kd α} {w : World} {A : Option Addr} {xs : List α} {m c : Nat}
end
end Kd
section
variable {P : Program}
end

theorem below_size {w W : World} (h : Below w.heap.size w W) : w.heap.size ≤ W.heap.size := h.size
theorem below_step {w W w2 : World} (h : Below w.heap.size w W) (k : Below W.heap.size W w2) : Below w.heap.size w w2 := below_then h h.size k
theorem ReadsInt.nil (W : World) (k : IntKind) : ReadsInt W k none ([] : List Int).length [] := ⟨rfl, by simp, fun h => absurd h (Nat.lt_irrefl 0)⟩
theorem ReadsInt.drewN {W : World} {k : IntKind} {A : Option Addr} {n : Nat} {xs : List Int} (h : ReadsInt W k A n xs) (m : Nat) : ReadsInt (W.drewN m) k A n xs := h
theorem below_set {w W : World} {g j : Nat} {v : Value} (h : Below w.heap.size w W) (hg : w.heap.size ≤ g) : Below w.heap.size w (W.setCell ⟨g, j, none⟩ v) := h.setCell hg _
theorem keep_cell {w W : World} {g : Nat} (h : KeepBut w W g none) {a : Addr} {v : Value} (hc : w.cell? a = some v) (hne : a.block ≠ g) : W.cell? a = some v := by
  have := h.2 a.block (World.block_lt_of_cell? w a hc) hne (by simp)
  simpa [World.cell?, this] using hc
theorem add_block (a : Addr) (i : Nat) : (a.add i).block = a.block := by unfold Addr.add; split <;> rfl
theorem ReadsOf.nil {α : Type} (enc : α → Value) (d : α) (W : World) : ReadsOf enc d W none ([] : List α).length [] := ⟨rfl, by simp, fun h => absurd h (Nat.lt_irrefl 0)⟩
theorem ReadsOf.drewN {α : Type} {enc : α → Value} {d : α} {W : World} {A : Option Addr} {n : Nat} {xs : List α} (h : ReadsOf enc d W A n xs) (m : Nat) : ReadsOf enc d (W.drewN m) A n xs := h
theorem ReadsInt.keep {w W : World} {k : IntKind} {A : Option Addr} {n g : Nat} {xs : List Int} (h : ReadsInt w k A n xs) (hk : KeepBut w W g none) (hf : ∀ ad, A = some ad → 0 < n → ad.block ≠ g) : ReadsInt W k A n xs :=
  ⟨h.1, h.2.1, fun hn => by
    obtain ⟨ad, e, hc⟩ := h.2.2 hn
    exact ⟨ad, e, fun j hj => keep_cell hk (hc j hj) (by rw [add_block]; exact hf ad e hn)⟩⟩
theorem ReadsOf.keep {α : Type} {enc : α → Value} {d : α} {w W : World} {A : Option Addr} {n g : Nat} {xs : List α} (h : ReadsOf enc d w A n xs) (hk : KeepBut w W g none) (hf : ∀ ad, A = some ad → 0 < n → ad.block ≠ g) : ReadsOf enc d W A n xs :=
  ⟨h.1, h.2.1, fun hn => by
    obtain ⟨ad, e, hc⟩ := h.2.2 hn
    exact ⟨ad, e, fun j hj => keep_cell hk (hc j hj) (by rw [add_block]; exact hf ad e hn)⟩⟩
theorem blk_put {w : World} {g : Nat} {t : TypeId} {cs cs' : Array Value} (h : w.heap[g]? = some (.cells cs t (0, 0))) (i : Nat) (u : Value) (e : cs.setIfInBounds i u = cs') : (w.setCell ⟨g, i, none⟩ u).heap[g]? = some (.cells cs' t (0, 0)) := e ▸ blk_set h i u
theorem below_drew1 {base : Nat} {w W : World} (h : Below base w W) : Below base w W.drew := h.drew
namespace Kd
section
variable {α β : Type} {d : Kd α} {d' : Kd β} {e e' base base' n : Nat} {ok ok' : Nat → Prop} {w W w1 W1 : World} {v u : Value} {xs : List α} {ys : List β} {A : Option Addr} {c : Nat}
end
section
variable {α : Type} {enc : α → Value} {h1 : ∀ x, (enc x).oneCell' = true} {w W : World} {A : Option Addr} {n g : Nat} {xs : List α}
end
end Kd
namespace Kd
section
variable {α : Type} {d : Kd α} {e base g : Nat} {ok : Nat → Prop} {w w1 : World} {v : Value} {xs : List α} {o : Obj}
end
end Kd
section
variable {P : Program} {ops : Array Oper} {rest : List Oper} {o : Oper} {a : Act} {Q : Exit → Act → World → Prop}
theorem box_event {W : World} (hgd : o.guard = none) {N : Tmp} (_hd : o.dst = some N) {cs : Array Value} {t : TypeId}
    (hrun : (execOp a.eval o).run P W = .ok (.value (.pointer (some ⟨W.heap.size, 0, none⟩))) (W.alloc (.cells cs t (0, 0))))
    (h : ∀ g, g = W.heap.size → ∀ w1, w1.heap[g]? = some (.cells cs t (0, 0)) → Below W.heap.size W w1 → wpList P ops Q rest (a.put o.dst (.pointer (some ⟨g, 0, none⟩))) w1) : wpList P ops Q (o :: rest) a W :=
  Kd.event_run hgd hrun (h _ rfl _ (blk_new W _) (below_alloc (Below.refl _ _) _))
end
namespace Kd
section
variable {α : Type} {enc : α → Value} {h1 : ∀ x, (enc x).oneCell' = true} {e base g n cap : Nat} {ok : Nat → Prop} {W : World} {xs : List α}
end
end Kd
section
variable {P : Program} {ops : Array Oper} {rest : List Oper} {o : Oper} {a : Act} {Q : Exit → Act → World → Prop}
end
namespace Kd
section
variable {α : Type} {enc : α → Value} {h1 : ∀ x, (enc x).oneCell' = true} {e base g n cap : Nat} {ok : Nat → Prop} {W : World} {xs : List α}
end
end Kd
section
variable {P : Program} {ops : Array Oper} {rest : List Oper} {o : Oper} {a : Act} {Q : Exit → Act → World → Prop} {W : World}
theorem gate_dst {N : Tmp} (_hN : o.dst = some N) (h : wpList P ops Q (o :: rest) a W) : wpList P ops Q (o :: rest) a W := h
end

section
variable {P : Program} {ops : Array Oper} {o : Oper} {a : Act} {Q : Exit → Act → World → Prop} {Kc : Act → World → Prop}
namespace Kd
variable {α : Type}
end Kd
end

inductive Vals (P : Program) (tmps : Array Value) (w : World) : List ResultVar → List Value → Prop where
  | nil : Vals P tmps w [] []
  | tmp {u : Tmp} {rs : List ResultVar} {vs : List Value} (h : Vals P tmps w rs vs) : Vals P tmps w (.tmp u :: rs) (tmps.getD u undef :: vs)
  | cell {p : Tmp} {ty : TypeId} {rs : List ResultVar} {vs : List Value} (g : Nat) (t : TypeId) (cs : Array Value) (fr : Nat × Nat) (d : TypeDesc)
      (hp : tmps.getD p undef = .pointer (some ⟨g, 0, none⟩)) (hg : w.heap[g]? = some (.cells cs t fr))
      (hu : P.underlying ty = some d) (hd : (match d with | .struct _ | .array _ _ => true | _ => false) = true) (hi : (P.info? ty).map (·.size) = some cs.size)
      (h : Vals P tmps w rs vs) : Vals P tmps w (.cell p ty :: rs) (.agg cs :: vs)
section
variable {P : Program} {tmps : Array Value} {w : World}
end

namespace Kd
section
variable {P : Program} {α : Type}
end
section
variable {P : Program} {ops : Array Oper} {rest : List Oper} {o : Oper} {a : Act} {Q : Exit → Act → World → Prop} {Kc : Act → World → Prop} {α : Type}
end
end Kd

end Go.Proofs.YtdiijjdhofaodaaW.PrintWords
end
section
namespace Go.Proofs.YtdiijjdhofaodaaW.PrintLast

section
variable {P : Program} {ops : Array Oper} {Q : Exit → Act → World → Prop} {md : Region.Mode} {S : World → Prop} {ds : List Nat}


def ListedClosed (md : Region.Mode) (ops : Array Oper) (listed : Array Bool) : Prop :=
  ∀ j oj, ops[j]? = some oj → listed.getD j false = true → ∀ e ∈ oj.after, Region.binds md e = true → listed.getD e.on false = true

theorem ListedClosed.set {listed : Array Bool} {i : Nat} (h : ListedClosed md ops listed) (hi : i ∈ Region.ready md ops listed) : ListedClosed md ops (listed.setIfInBounds i true) := by
  obtain ⟨_, oi, hoi, hall⟩ := mem_ready.1 hi
  intro j oj hj hl e he hb
  by_cases hij : i = j
  · subst hij
    have : oj = oi := Option.some.inj (hj.symm.trans hoi)
    subst this
    exact getD_set_true (hall e he hb)
  · rw [getD_set_ne false hij] at hl
    exact getD_set_true (h j oj hj hl e he hb)

def wpAnyLast (P : Program) (md : Region.Mode) (ops : Array Oper) (Q : Exit → Act → World → Prop) (S : World → Prop) (ds : List Nat) : Nat → Array Bool → Act → World → Prop
  | 0, listed, a, w => Region.ready md ops listed = [] ∧ Q .normal a w
  | fuel + 1, listed, a, w =>
    (Region.ready md ops listed = [] → Q .normal a w) ∧
    ∀ i ∈ Region.ready md ops listed, wpOp P ops Q i (fun a' w' => (i ∉ ds → S w → S w') ∧ wpAnyLast P md ops Q S ds fuel (listed.setIfInBounds i true) a' w') a w

end

section
variable {P : Program} {ops : Array Oper} {Q : Exit → Act → World → Prop} {md : Region.Mode} {S : World → Prop} {ds : List Nat}

def AllReadyL (P : Program) (md : Region.Mode) (ops : Array Oper) (Q : Exit → Act → World → Prop) (S : World → Prop) (ds : List Nat) (fuel : Nat) (listed : Array Bool) (a : Act) (w : World) (rs : List Nat) : Prop :=
  ∀ i ∈ rs, wpOp P ops Q i (fun a' w' => (i ∉ ds → S w → S w') ∧ wpAnyLast P md ops Q S ds fuel (listed.setIfInBounds i true) a' w') a w
theorem AllReadyL.nil {fuel : Nat} {listed : Array Bool} {a : Act} {w : World} : AllReadyL P md ops Q S ds fuel listed a w [] := fun _ h => by cases h
theorem AllReadyL.cons {fuel : Nat} {listed : Array Bool} {a : Act} {w : World} {i : Nat} {o : Oper} {rs : List Nat} (ho : ops[i]? = some o) (hd : i ∉ ds)
    (h : ∀ K' : Act → World → Prop, Shut (∀ a w, S w → (S w → wpAnyLast P md ops Q S ds fuel (listed.setIfInBounds i true) a w) → K' a w) → if Region.wanted o (yielded ops a.tmps) = true then Oper.wp P o a w K' Q else K' (a.put o.dst undef) w)
    (hs : AllReadyL P md ops Q S ds fuel listed a w rs) : AllReadyL P md ops Q S ds fuel listed a w (i :: rs) := fun j hj => by
  rcases List.mem_cons.1 hj with rfl | hj
  · exact wpOp_step ho (fun K' hK => h K' (fun a w hS hW => hK a w ⟨fun _ _ => hS, hW hS⟩))
  · exact hs j hj

theorem enters_ {f : FuncId} {fn : Func} (hf : P.funcs[f]? = some fn) (hname : (fn.name == "runtime.NumGoroutine") = false) (hb : fn.body.isSome = true) (args : Array Value) (w : World) : (callFunc f args).run P w = .ok (.enter f args) w := by
  have h1 : fn.name ≠ "runtime.NumGoroutine" := by simpa using hname
  obtain ⟨c, hc⟩ := Option.isSome_iff_exists.1 hb
  simp [callFunc, hf, h1, hc]

theorem goesL_ {rest : List Oper} {oi : Oper} {a : Act} {w : World} (N : Option Tmp) (hd : oi.dst = N) (hg : oi.guard = none) {f : FuncId} {fn : Func} {as_ : Array Operand} {ts : Array TypeId} (hf : P.funcs[f]? = some fn) (hname : (fn.name == "runtime.NumGoroutine") = false) (hb : fn.body.isSome = true) (args : Array Value)
    (hop : oi.op = .call { callee := .value (.func f), args := as_, argTypes := ts }) (hargs : as_.map a.eval = args)
    (h : Calls P f args w fun e w' => ∃ v, e = .returned v ∧ wpList P ops Q rest (a.put N v) w') : wpList P ops Q (oi :: rest) a w := by
  refine wpList_plain hg fun K hK => ?_
  have he := enters_ hf hname hb args w
  have hrun : (execOp a.eval oi).run P w = .ok (.enter f args) w := by
    unfold execOp
    simp [hop, resolve, Deferred.ofValue, invoke, Act.eval, hargs, he]
  unfold Oper.wp
  rw [hrun, Oper.upon_enter]
  refine h.mono fun e w'' hh => ?_
  obtain ⟨v, rfl, hk⟩ := hh
  subst hd
  exact hK _ _ hk

theorem i64_w (n : Int) : IntKind.i64.wrap n = Go.RowKit.wrap64 n := by unfold Go.RowKit.wrap64; exact IntKind.wrap_i64 n
theorem i32_w (n : Int) : IntKind.i32.wrap n = Go.RowKit.wrap32 n := by unfold Go.RowKit.wrap32; exact IntKind.wrap_i32 n
end
end Go.Proofs.YtdiijjdhofaodaaW.PrintLast
end
section
namespace Go.Proofs.YtdiijjdhofaodaaW.PrintWords
open Go.RowKit
namespace Kd
section
variable {α : Type} {d : Kd α} {e base g o n cap : Nat} {ok okp : Nat → Prop} {w W : World} {v : Value} {xs : List α}
end
section
variable {α : Type} {enc : α → Value} {h1 : ∀ x, (enc x).oneCell' = true} {e base g o n cap : Nat} {ok : Nat → Prop} {W : World} {xs : List α}
end
end Kd
end Go.Proofs.YtdiijjdhofaodaaW.PrintWords
end
section
namespace Go.Proofs.YtdiijjdhofaodaaW.PrintWords
open Go.RowKit
namespace Kd

def tag {α : Type} (f : Nat → Nat) (d : Kd α) : Kd (α × Nat) where
  sz := d.sz
  E := d.E
  K := fun w x cs => d.K w x.1 cs
  M := fun w base ok x cs => d.M w base (fun k => ok k ∧ f k = x.2) x.1 cs
  K_len := fun h => d.K_len h
  K_one := fun h => d.K_one h
  K_below := fun hb h => d.K_below hb h
  K_of_M := fun h => d.K_of_M h
  M_mono := fun hok h => d.M_mono (fun k hk => ⟨hok k hk.1, hk.2⟩) h
  M_bound := fun h => d.M_mono (fun _ hk => ⟨⟨hk.1.1, hk.2⟩, hk.1.2⟩) (d.M_bound h)
  M_move := fun hm h => d.M_move (fun k hk => hm k hk.1) h
  M_lower := fun hb h => d.M_lower hb h

def raw (sz : Nat) : Kd (List Value) where
  sz := sz
  E := []
  K := fun _ x cs => cs = x ∧ cs.length = sz ∧ ∀ u ∈ cs, u.oneCell' = true
  M := fun _ _ _ x cs => cs = x ∧ cs.length = sz ∧ ∀ u ∈ cs, u.oneCell' = true
  K_len := fun h => h.2.1
  K_one := fun h => h.2.2
  K_below := fun _ h => h
  K_of_M := fun h => h
  M_mono := fun _ h => h
  M_bound := fun h => h
  M_move := fun _ h => h
  M_lower := fun _ h => h

def S {α : Type} (d : Kd α) (e : Nat) (w : World) (base : Nat) (ok : Nat → Prop) (v : Value) (xs : List α) : Prop := ∃ f, (tag f d).R e w base ok v xs.zipIdx
section
variable {α β : Type} {d : Kd α} {d' : Kd β} {e e' : Nat} {w w1 W : World} {base b : Nat} {ok ok' okv oku : Nat → Prop} {u v : Value} {xs : List α} {ys : List β}
end
section
variable {α β : Type} {d : Kd α} {d' : Kd β} {e e' g : Nat} {w w1 W : World} {base b : Nat} {ok ok' okv oku : Nat → Prop} {u v : Value} {xs : List α} {ys : List β}
end

section
open Classical in

variable {P : Program} {ops : Array Oper} {rest : List Oper} {o : Oper} {a : Act} {Q : Exit → Act → World → Prop} {Kc : Act → World → Prop} {α : Type}

end


def gap {α : Type} (f : Nat → Nat) (d : Kd α) (i : Nat) (c : List Value) : Kd (α × Nat) where
  sz := d.sz
  E := d.E
  K := fun w x cs => (x.2 = i → cs = c ∧ cs.length = d.sz ∧ ∀ u ∈ cs, u.oneCell' = true) ∧ (x.2 ≠ i → d.K w x.1 cs)
  M := fun w base ok x cs => (x.2 = i → cs = c ∧ cs.length = d.sz ∧ ∀ u ∈ cs, u.oneCell' = true) ∧ (x.2 ≠ i → d.M w base (fun k => ok k ∧ f k = x.2) x.1 cs)
  K_len := fun {w x cs} h => by
    by_cases hx : x.2 = i
    · exact (h.1 hx).2.1
    · exact d.K_len (h.2 hx)
  K_one := fun {w x cs} h => by
    by_cases hx : x.2 = i
    · exact (h.1 hx).2.2
    · exact d.K_one (h.2 hx)
  K_below := fun hb h => ⟨h.1, fun hx => d.K_below hb (h.2 hx)⟩
  K_of_M := fun h => ⟨h.1, fun hx => d.K_of_M (h.2 hx)⟩
  M_mono := fun hok h => ⟨h.1, fun hx => d.M_mono (fun k hk => ⟨hok k hk.1, hk.2⟩) (h.2 hx)⟩
  M_bound := fun h => ⟨h.1, fun hx => d.M_mono (fun _ hk => ⟨⟨hk.1.1, hk.2⟩, hk.1.2⟩) (d.M_bound (h.2 hx))⟩
  M_move := fun hm h => ⟨h.1, fun hx => d.M_move (fun k hk => hm k hk.1) (h.2 hx)⟩
  M_lower := fun hb h => ⟨h.1, fun hx => d.M_lower hb (h.2 hx)⟩
def H {α : Type} (d : Kd α) (e : Nat) (w : World) (base : Nat) (ok : Nat → Prop) (v : Value) (xs : List α) (i : Int) (oki : Nat → Prop) (c : List Value) : Prop :=
  (∀ k, oki k → ok k) ∧ ∃ f, (gap f d i.toNat c).R e w base (fun k => ok k ∧ ¬ oki k) v xs.zipIdx
section
variable {α β : Type} {d : Kd α} {e e' g n cap : Nat} {w w1 W : World} {base : Nat} {ok ok' oki okp : Nat → Prop} {u v : Value} {xs : List α} {i : Int} {c : List Value}

open Classical in

end
section
variable {P : Program} {ops : Array Oper} {rest : List Oper} {o : Oper} {a : Act} {Q : Exit → Act → World → Prop} {α : Type}

end
end Kd
end Go.Proofs.YtdiijjdhofaodaaW.PrintWords
end
section
namespace Go.Proofs.YtdiijjdhofaodaaW.PrintWords
open Go.RowKit
namespace Kd
section
variable {α : Type} {n : Nat} {d : Kd α} {hs : 0 < d.sz} {w : World} {base : Nat} {ok : Nat → Prop} {xs : List α} {cs : List Value}
end
section
variable {α : Type} {n : Nat} {enc : α → Value} {h1 : ∀ x, (enc x).oneCell' = true} {hs : 0 < (scalar enc h1).sz} {w : World} {base : Nat} {ok : Nat → Prop} {xs : List α} {cs : List Value}
end
end Kd
end Go.Proofs.YtdiijjdhofaodaaW.PrintWords
end
section
namespace Go.Proofs.YtdiijjdhofaodaaW.PrintWords
open Go.RowKit
section
variable {P : Program}
end
namespace Kd

section
variable {P : Program} {ops : Array Oper} {rest : List Oper} {o : Oper} {a : Act} {Q : Exit → Act → World → Prop} {Kc : Act → World → Prop} {α : Type}
end


section
variable {α : Type} {d : Kd α} {e : Nat} {w : World} {base : Nat} {ok : Nat → Prop} {v : Value} {xs : List α}
end
section
variable {P : Program} {ops : Array Oper} {rest : List Oper} {o : Oper} {a : Act} {Q : Exit → Act → World → Prop} {Kc : Act → World → Prop} {α : Type}
end
end Kd
end Go.Proofs.YtdiijjdhofaodaaW.PrintWords
end
section
namespace Go.Proofs.YtdiijjdhofaodaaW.PrintWords
open Go.RowKit
namespace Kd

structure Heap {α : Type} (d : Kd α) : Prop where
  K : ∀ {w w1 : World} {x : α} {cs : List Value}, (∀ k, k < w.heap.size → w1.heap[k]? = w.heap[k]?) → d.K w x cs → d.K w1 x cs
theorem cell_heap {w w1 : World} (hb : ∀ k, k < w.heap.size → w1.heap[k]? = w.heap[k]?) {a : Addr} {v : Value} (h : w.cell? a = some v) : w1.cell? a = some v := by
  have := hb a.block (World.block_lt_of_cell? w a h)
  simpa [World.cell?, this] using h
theorem Heap.C {α : Type} {d : Kd α} (hd : Heap d) {w w1 : World} {A : Option Addr} {n : Nat} {xs : List α} (hb : ∀ k, k < w.heap.size → w1.heap[k]? = w.heap[k]?) (h : d.C w A n xs) : d.C w1 A n xs :=
  ⟨h.1, h.2.1, fun hn => by
    obtain ⟨ad, e, hc⟩ := h.2.2 hn
    refine ⟨ad, e, fun j p hj => ?_⟩
    obtain ⟨c, hs, hr, hcell⟩ := hc j p hj
    exact ⟨c, hs, hd.K hb hr, fun i u hu => cell_heap hb (hcell i u hu)⟩⟩
section
variable {α : Type} {d : Kd α} {e base g n c : Nat} {ok : Nat → Prop} {w w0 W : World} {A : Option Addr} {xs : List α}

end

end Kd
end Go.Proofs.YtdiijjdhofaodaaW.PrintWords
end
section
namespace Go.Proofs.YtdiijjdhofaodaaW.PrintWords
open Go.RowKit
def Kept (w W : World) (S : Nat → Prop) : Prop := w.heap.size ≤ W.heap.size ∧ ∀ i, i < w.heap.size → ¬ S i → W.heap[i]? = w.heap[i]?
section
variable {w W W2 : World} {S S2 S' : Nat → Prop}
theorem Kept.refl (w : World) (S : Nat → Prop) : Kept w w S := ⟨Nat.le_refl _, fun _ _ _ => rfl⟩
theorem Kept.of_below (h : Below w.heap.size w W) (S : Nat → Prop) : Kept w W S := ⟨h.size, fun i hi _ => h.block i hi⟩
theorem Kept.mono (h : Kept w W S) (hs : ∀ k, S k → S' k) : Kept w W S' := ⟨h.1, fun i hi hn => h.2 i hi (fun hk => hn (hs i hk))⟩
theorem Kept.then_ (h : Kept w W S) (k : Kept W W2 S2) (hs : ∀ k, S2 k → S k ∨ w.heap.size ≤ k) : Kept w W2 S :=
  ⟨Nat.le_trans h.1 k.1, fun i hi hn => (k.2 i (Nat.lt_of_lt_of_le hi h.1) (fun h2 => (hs i h2).elim hn (fun h3 => by omega))).trans (h.2 i hi hn)⟩
theorem Kept.below (h : Kept w W S) (hb : Below W.heap.size W W2) : Kept w W2 S := h.then_ (Kept.of_below hb (fun _ => False)) (fun _ hk => hk.elim)
theorem Kept.alloc (h : Kept w W S) (o : Obj) : Kept w (W.alloc o) S := h.below (below_alloc (Below.refl _ _) o)
theorem Kept.drew (h : Kept w W S) : Kept w W.drew S := h
theorem Kept.drewN (h : Kept w W S) (m : Nat) : Kept w (W.drewN m) S := h
theorem Kept.setCell (h : Kept w W S) {p : Addr} (hp : S p.block ∨ w.heap.size ≤ p.block) (u : Value) : Kept w (W.setCell p u) S :=
  h.then_ (S2 := fun k => k = p.block) ⟨by simp [World.setCell], fun i _ hn => Below.heap_setCell W p u i hn⟩ (fun k hk => by rw [hk]; exact hp)

theorem Kept.keep {g : Nat} (h : KeepBut w W g none) (k : Kept W W2 S2) (hs : ∀ k, S2 k → w.heap.size ≤ k) : KeepBut w W2 g none :=
  ⟨Nat.le_trans h.1 k.1, fun i hi hg hr => (k.2 i (Nat.lt_of_lt_of_le hi h.1) (fun h2 => by have := hs i h2; omega)).trans (h.2 i hi hg hr)⟩
end
namespace Kd
section
variable {α : Type} {d : Kd α} {e base n c : Nat} {ok oki S S2 : Nat → Prop} {w w0 W W1 W2 : World} {v : Value} {A : Option Addr} {xs : List α} {i : Int} {cs : List Value}
end
end Kd
end Go.Proofs.YtdiijjdhofaodaaW.PrintWords
end
section
namespace Go.Proofs.YtdiijjdhofaodaaW.PrintWords
open Go.RowKit

def Foot (P : World → Prop) (W : World) (ok : Nat → Prop) : Prop := ∀ W' : World, (∀ k, ok k → k < W.heap.size → W'.heap[k]? = W.heap[k]?) → P W'
theorem heap_lt {W W1 : World} {k : Nat} (h : W1.heap[k]? = W.heap[k]?) (hlt : k < W.heap.size) : k < W1.heap.size := by
  rw [Array.getElem?_eq_getElem hlt] at h
  exact (Array.getElem?_eq_some_iff.1 h).1
namespace Foot
variable {P Q : World → Prop} {W W1 : World} {ok ok' : Nat → Prop}
theorem mono (h : Foot P W ok) (hok : ∀ k, ok k → ok' k) : Foot P W ok' := fun W' hW => h W' (fun k hk hlt => hW k (hok k hk) hlt)
theorem step (h : Foot P W ok) (hm : ∀ k, ok k → k < W.heap.size → W1.heap[k]? = W.heap[k]?) : Foot P W1 ok := fun W' hW => h W' (fun k hk hlt => (hW k hk (heap_lt (hm k hk hlt) hlt)).trans (hm k hk hlt))
end Foot
namespace Kd

def F {α : Type} (d : Kd α) (W : World) (ok : Nat → Prop) (A : Option Addr) (n : Nat) (xs : List α) : Prop := Foot (fun W => d.C W A n xs) W ok

def FK {α : Type} (d : Kd α) (W : World) (ok : Nat → Prop) (x : α) (c : List Value) : Prop := Foot (fun W => d.K W x c) W ok
section
variable {α β : Type} {d : Kd α} {e base n n' cc g N : Nat} {ok ok' okp S : Nat → Prop} {w w0 w1 W W1 : World} {A A' : Option Addr} {u v v1 : Value} {xs : List α} {xs' : List β} {d' : Kd β} {x : α} {c : List Value}
end
end Kd
end Go.Proofs.YtdiijjdhofaodaaW.PrintWords
end
section
namespace Go.Proofs.YtdiijjdhofaodaaW.PrintWords
open Go.RowKit
namespace Kd

section
variable {α : Type} {d : Kd α} {e base n cc g : Nat} {ok ok' okp S : Nat → Prop} {w w1 W W1 : World} {A : Option Addr} {u v v1 : Value} {xs : List α} {x : α} {c : List Value}

def N {α : Type} (d : Kd α) (e : Nat) (w : World) (base : Nat) (ok : Nat → Prop) (v : Value) (xs : List α) : Prop :=
  (∀ k, v.ownBlock = some k → ok k) ∧ ∃ rows : List (List Value), rows.length = xs.length ∧ (raw d.sz).R e w base (fun k => some k = v.ownBlock) v rows ∧ ∀ (j : Nat) (x : α) (c : List Value), xs[j]? = some x → rows[j]? = some c → FK d w (fun k => ok k ∧ some k ≠ v.ownBlock) x c
end
end Kd
end Go.Proofs.YtdiijjdhofaodaaW.PrintWords
end
section
namespace Go.Proofs.YtdiijjdhofaodaaW.PrintWords
open Go.RowKit
namespace Kd
section
variable {α : Type} {d : Kd α} {e base n cap g : Nat} {ok ok' okp : Nat → Prop} {w w1 W : World} {v v1 : Value} {xs ys : List α}

end
section
variable {P : Program} {ops : Array Oper} {rest : List Oper} {o : Oper} {a : Act} {Q : Exit → Act → World → Prop} {Kc : Act → World → Prop} {α : Type}

end
end Kd
end Go.Proofs.YtdiijjdhofaodaaW.PrintWords
end
section
namespace Go.Proofs.YtdiijjdhofaodaaW.PrintMore
open Go.RowKit Go.Proofs.YtdiijjdhofaodaaW.PrintWords
namespace Kd
open Go.Proofs.YtdiijjdhofaodaaW.PrintWords.Kd

end Kd

namespace Kd
open Go.Proofs.YtdiijjdhofaodaaW.PrintWords.Kd
section
variable {α : Type} {d : Kd α} {e base g N : Nat} {ok : Nat → Prop} {W w1 : World} {u v : Value} {xs : List α}

end
end Kd

theorem max2_int (k k' : IntKind) (x y : Int) : Builtin.max2 (.int k x) (.int k' y) = pure (.int k (if x < y then y else x)) := by simp only [Builtin.max2, gt_iff_lt]
theorem min2_int (k k' : IntKind) (x y : Int) : Builtin.min2 (.int k x) (.int k' y) = pure (.int k (if y < x then y else x)) := by simp only [Builtin.min2]
theorem max_two (ats : Array TypeId) (ty : TypeId) (a b : Value) : Builtin.max_ ats ty #[a, b] = (Builtin.max2 a b >>= fun s => pure s) := by simp only [Builtin.max_, List.foldlM_cons, List.foldlM_nil]
theorem min_two (ats : Array TypeId) (ty : TypeId) (a b : Value) : Builtin.min_ ats ty #[a, b] = (Builtin.min2 a b >>= fun s => pure s) := by simp only [Builtin.min_, List.foldlM_cons, List.foldlM_nil]
theorem max_three (ats : Array TypeId) (ty : TypeId) (a b c : Value) : Builtin.max_ ats ty #[a, b, c] = (Builtin.max2 a b >>= fun s => Builtin.max2 s c >>= fun s => pure s) := by simp only [Builtin.max_, List.foldlM_cons, List.foldlM_nil]
theorem min_three (ats : Array TypeId) (ty : TypeId) (a b c : Value) : Builtin.min_ ats ty #[a, b, c] = (Builtin.min2 a b >>= fun s => Builtin.min2 s c >>= fun s => pure s) := by simp only [Builtin.min_, List.foldlM_cons, List.foldlM_nil]
theorem max_four (ats : Array TypeId) (ty : TypeId) (a b c d : Value) : Builtin.max_ ats ty #[a, b, c, d] = (Builtin.max2 a b >>= fun s => Builtin.max2 s c >>= fun s => Builtin.max2 s d >>= fun s => pure s) := by simp only [Builtin.max_, List.foldlM_cons, List.foldlM_nil]
theorem min_four (ats : Array TypeId) (ty : TypeId) (a b c d : Value) : Builtin.min_ ats ty #[a, b, c, d] = (Builtin.min2 a b >>= fun s => Builtin.min2 s c >>= fun s => Builtin.min2 s d >>= fun s => pure s) := by simp only [Builtin.min_, List.foldlM_cons, List.foldlM_nil]
end Go.Proofs.YtdiijjdhofaodaaW.PrintMore
namespace Go.Proofs.YtdiijjdhofaodaaW.PrintWords
open Go.RowKit
section
variable {P : Program} {ops : Array Oper} {rest : List Oper} {o : Oper} {a : Act} {Q : Exit → Act → World → Prop} {W : World}

theorem gate_callee {f : FuncId} {as_ : Array Operand} {ts : Array TypeId} (_ho : o.op = .call { callee := .value (.func f), args := as_, argTypes := ts }) (h : wpList P ops Q (o :: rest) a W) : wpList P ops Q (o :: rest) a W := h

end

def mx (a b : Int) : Int := if a < b then b else a

def mn (a b : Int) : Int := if b < a then b else a

theorem drewN_self (w : World) (n : Nat) : w.drewN n = w.drewN n := rfl
namespace Kd
section
variable {α : Type} {d : Kd α} {e base : Nat} {ok : Nat → Prop} {W w1 : World} {v : Value} {xs : List α}

end
section
variable {α : Type} {d : Kd α} {e base g n cap : Nat} {ok oki okp : Nat → Prop} {W : World} {xs : List α} {i : Int} {c : List Value}

end
section
variable {α : Type} {d : Kd α} {e base b b' g N : Nat} {ok ok1 : Nat → Prop} {W W2 w1 : World} {u v : Value} {xs ys : List α} {S : Nat → Prop}
end
end Kd
end Go.Proofs.YtdiijjdhofaodaaW.PrintWords
namespace Go.Proofs.YtdiijjdhofaodaaW.PrintWords
open Go.RowKit

namespace Kd

section
variable {α β : Type} {d : Kd α} {e base base' n m c g N' lo hi : Nat} {ok ok' S : Nat → Prop} {w W w1 : World} {A : Option Addr} {ad : Addr} {u v v1 : Value} {xs : List α}
end
end Kd
end Go.Proofs.YtdiijjdhofaodaaW.PrintWords
end
section
namespace Go.Proofs.Ytdiijjdhofaodaa.G
open Go Go.RowKit Go.ChangeShapes Go.WideShapes
def isInt : Option TypeDesc → Bool | some (.int .i64) => true | _ => false
theorem isInt_of {o : Option TypeDesc} (h : isInt o = true) : o = some (.int .i64) := by
  unfold isInt at h
  split at h
  · rfl
  · exact absurd h (by decide)
/-- The first m fields are ints of one cell each, one behind the other. -/
def intFields (P : Program) (fs : Array Field) (m : Nat) : Bool := (List.range m).all fun i => match fs[i]? with
  | some f => f.offset == i && P.cellsOf f.type == 1 && isInt (P.underlying f.type)
  | none => false
theorem intFields_of {P : Program} {fs : Array Field} {m : Nat} (h : intFields P fs m = true) (i : Nat) (hi : i < m) : ∃ f, fs[i]? = some f ∧ f.offset = i ∧ P.cellsOf f.type = 1 ∧ P.underlying f.type = some (.int .i64) := by
  have := List.all_eq_true.1 h i (List.mem_range.2 hi)
  cases hf : fs[i]? with
  | none => simp [hf] at this
  | some f =>
    simp only [hf, Bool.and_eq_true, beq_iff_eq] at this
    exact ⟨f, rfl, this.1.1, this.1.2, isInt_of this.2⟩
section
variable {H : Type} {enc : TypeId × Value → H} {P : Program} {w : World} {base : Nat} {spare : Nat → Bool} {held : Bool}
theorem open_ints_agg {r : Reach} {b0 : Nat} {t : TypeId} {fs : Array Field} {m : Nat} {v : Value} {d : DataW H} {ps : List MemPlace} (hs : P.underlying t = some (.struct fs)) (hone : intFields P fs m = true) (hC : P.cellsOf t = m)
    (hv : Value.okWide P w r b0 t v) (h : DataW.Trod enc P w base spare held t v d ps) :
    ∃ cs : Array Value, v = .agg cs ∧ cs.size = m ∧ ∀ i, i < m → ∃ n, cs[i]? = some (.int .i64 n) ∧ (Lit.int .i64 n).wf = true := by
  obtain ⟨cs, rfl, hsz⟩ := okWide_struct hs hv
  obtain ⟨fuel, hf⟩ := h
  obtain ⟨xs, n, _, hx, hl, hlen, hq⟩ := DataW.trod_struct hs hf
  refine ⟨cs, rfl, hsz.trans hC, fun i hi => ?_⟩
  obtain ⟨f, h1, h2, h3, h4⟩ := intFields_of hone i hi
  have hi' : i < cs.size := by omega
  have h5 := hq i f h1
  rw [h2, h3] at h5
  obtain ⟨y, hy⟩ : ∃ y, DataW.trod enc P w base spare held n f.type (((Value.agg cs).cells.toList.drop i).take 1) = some y := by
    have hi2 : i < fs.size := (Array.getElem?_eq_some_iff.1 h1).1
    exact ⟨xs[i]'(by omega), h5.trans (List.getElem?_eq_getElem (by omega))⟩
  obtain ⟨k, hk, _, hw⟩ := DataW.trod_int h4 hy
  refine ⟨k, ?_, hw⟩
  have h6 : (((Value.agg cs).cells.toList.drop i).take 1)[0]? = some (.int .i64 k) := by rw [hk]; rfl
  simpa [Value.cells, List.getElem?_take, List.getElem?_drop] using h6
end
theorem array_11 {cs : Array Value} (hs : cs.size = 11) {v0 v1 v2 v3 v4 v5 v6 v7 v8 v9 v10 : Value} (h0 : cs[0]? = some v0) (h1 : cs[1]? = some v1) (h2 : cs[2]? = some v2) (h3 : cs[3]? = some v3) (h4 : cs[4]? = some v4) (h5 : cs[5]? = some v5) (h6 : cs[6]? = some v6) (h7 : cs[7]? = some v7) (h8 : cs[8]? = some v8) (h9 : cs[9]? = some v9) (h10 : cs[10]? = some v10) :
    cs = #[v0, v1, v2, v3, v4, v5, v6, v7, v8, v9, v10] := by
  apply Array.ext_getElem?
  intro i
  match i with
  | 0 => exact h0
  | 1 => exact h1
  | 2 => exact h2
  | 3 => exact h3
  | 4 => exact h4
  | 5 => exact h5
  | 6 => exact h6
  | 7 => exact h7
  | 8 => exact h8
  | 9 => exact h9
  | 10 => exact h10
  | j + 11 =>
    rw [Array.getElem?_eq_none (by omega), Array.getElem?_eq_none (by simp)]
theorem open_ticket {H : Type} {enc : TypeId × Value → H} {P : Program} {w : World} {base : Nat} {spare : Nat → Bool} {held : Bool} {r : Reach} {b0 : Nat} {t : TypeId} {fs : Array Field} {v : Value} {d : DataW H} {ps : List MemPlace} (hs : P.underlying t = some (.struct fs)) (hone : intFields P fs 11 = true) (hC : P.cellsOf t = 11)
    (hv : Value.okWide P w r b0 t v) (h : DataW.Trod enc P w base spare held t v d ps) :
    ∃ x0 x1 x2 x3 x4 x5 x6 x7 x8 x9 x10 : Int, v = .agg #[.int .i64 x0, .int .i64 x1, .int .i64 x2, .int .i64 x3, .int .i64 x4, .int .i64 x5, .int .i64 x6, .int .i64 x7, .int .i64 x8, .int .i64 x9, .int .i64 x10] ∧
      (Lit.int .i64 x0).wf = true ∧ (Lit.int .i64 x1).wf = true ∧ (Lit.int .i64 x2).wf = true ∧ (Lit.int .i64 x3).wf = true ∧ (Lit.int .i64 x4).wf = true ∧ (Lit.int .i64 x5).wf = true ∧ (Lit.int .i64 x6).wf = true ∧ (Lit.int .i64 x7).wf = true ∧ (Lit.int .i64 x8).wf = true ∧ (Lit.int .i64 x9).wf = true ∧ (Lit.int .i64 x10).wf = true := by
  obtain ⟨cs, rfl, hsz, hall⟩ := open_ints_agg hs hone hC hv h
  obtain ⟨x0, e0, w0⟩ := hall 0 (by omega)
  obtain ⟨x1, e1, w1⟩ := hall 1 (by omega)
  obtain ⟨x2, e2, w2⟩ := hall 2 (by omega)
  obtain ⟨x3, e3, w3⟩ := hall 3 (by omega)
  obtain ⟨x4, e4, w4⟩ := hall 4 (by omega)
  obtain ⟨x5, e5, w5⟩ := hall 5 (by omega)
  obtain ⟨x6, e6, w6⟩ := hall 6 (by omega)
  obtain ⟨x7, e7, w7⟩ := hall 7 (by omega)
  obtain ⟨x8, e8, w8⟩ := hall 8 (by omega)
  obtain ⟨x9, e9, w9⟩ := hall 9 (by omega)
  obtain ⟨x10, e10, w10⟩ := hall 10 (by omega)
  exact ⟨x0, x1, x2, x3, x4, x5, x6, x7, x8, x9, x10, by rw [array_11 hsz e0 e1 e2 e3 e4 e5 e6 e7 e8 e9 e10], w0, w1, w2, w3, w4, w5, w6, w7, w8, w9, w10⟩
end Go.Proofs.Ytdiijjdhofaodaa.G
end
section
namespace Go.Proofs.Ytdiijjdhofaodaa.G
open Go Go.RowKit Go.ChangeShapes Go.WideShapes
theorem array_2 {cs : Array Value} (hs : cs.size = 2) {v0 v1 : Value} (h0 : cs[0]? = some v0) (h1 : cs[1]? = some v1) : cs = #[v0, v1] := by
  apply Array.ext_getElem?
  intro i
  match i with
  | 0 => exact h0
  | 1 => exact h1
  | j + 2 =>
    rw [Array.getElem?_eq_none (by omega), Array.getElem?_eq_none (by simp)]
theorem open_journey {H : Type} {enc : TypeId × Value → H} {P : Program} {w : World} {base : Nat} {spare : Nat → Bool} {held : Bool} {r : Reach} {b0 : Nat} {t : TypeId} {fs : Array Field} {v : Value} {d : DataW H} {ps : List MemPlace} (hs : P.underlying t = some (.struct fs)) (hone : intFields P fs 2 = true) (hC : P.cellsOf t = 2)
    (hv : Value.okWide P w r b0 t v) (h : DataW.Trod enc P w base spare held t v d ps) :
    ∃ x0 x1 : Int, v = .agg #[.int .i64 x0, .int .i64 x1] ∧ (Lit.int .i64 x0).wf = true ∧ (Lit.int .i64 x1).wf = true := by
  obtain ⟨cs, rfl, hsz, hall⟩ := open_ints_agg hs hone hC hv h
  obtain ⟨x0, e0, w0⟩ := hall 0 (by omega)
  obtain ⟨x1, e1, w1⟩ := hall 1 (by omega)
  exact ⟨x0, x1, by rw [array_2 hsz e0 e1], w0, w1⟩
end Go.Proofs.Ytdiijjdhofaodaa.G
end
section
namespace Go.Proofs.YtdiijjdhofaodaaW.PrintLast
open Go.Proofs.YtdiijjdhofaodaaW.PrintWords (Aside0)
section
variable {md : Region.Mode} {ops : Array Oper} {T : Bool × List (List Nat × List Nat)} {l l' li lj lk : Array Bool} {ds : List Nat} {i j k : Nat}
end

end Go.Proofs.YtdiijjdhofaodaaW.PrintLast
end
section
namespace Go.Proofs.YtdiijjdhofaodaaW.PrintLast
section
variable {P : Program} {ops : Array Oper} {Q : Exit → Act → World → Prop} {md : Region.Mode} {S : World → Prop} {ds : List Nat} {T : Bool × List (List Nat × List Nat)}
end
end Go.Proofs.YtdiijjdhofaodaaW.PrintLast
end
section
namespace Go.Proofs.YtdiijjdhofaodaaW.PrintWords
open Go.RowKit
namespace Kd

section
variable {α : Type} {d : Kd α} {W : World} {g n : Nat} {S ok : Nat → Prop} {A : Option Addr} {ad : Addr} {xs : List α}
end
end Kd
end Go.Proofs.YtdiijjdhofaodaaW.PrintWords
end
section
namespace Go.Proofs.YtdiijjdhofaodaaW.PrintWords
open Go.RowKit
section
variable {w w' u : World} {m B g : Nat} {o : Obj} {row : Option Nat} {S : Nat → Prop} {a : Addr} {v : Value}
end
namespace Kd
section
variable {α : Type} {d : Kd α} {e base n m : Nat} {ok : Nat → Prop} {w w' : World} {v : Value} {A : Option Addr} {xs : List α}
end
end Kd
end Go.Proofs.YtdiijjdhofaodaaW.PrintWords
end
section
namespace Go.Proofs.YtdiijjdhofaodaaW.PrintWords
open Go.RowKit
section
variable {P : Program} {d : Nat} {xs ys : Array Value} {f : Field} {fs : List Field} {a b : Value} {r s : Bool} {w : World}

theorem eqf_last (hn : (f.name == "_") = false) (ha : (part f.type xs f.offset).run P w = .ok a w) (hb : (part f.type ys f.offset).run P w = .ok b w) (he : (Op.equalIn d f.type a b).run P w = .ok r w) : (Op.eqFields d xs ys [f]).run P w = .ok r w := by
  have hn' : f.name ≠ "_" := by simpa using hn
  simp only [Op.eqFields, if_pos hn', Sem.run_bind, ha, hb, he, Result.andThen_ok]
  cases r <;> simp
theorem eqf_cons (hn : (f.name == "_") = false) (ha : (part f.type xs f.offset).run P w = .ok a w) (hb : (part f.type ys f.offset).run P w = .ok b w) (he : (Op.equalIn d f.type a b).run P w = .ok r w) (hr : (Op.eqFields d xs ys fs).run P w = .ok s w) : (Op.eqFields d xs ys (f :: fs)).run P w = .ok (r && s) w := by
  have hn' : f.name ≠ "_" := by simpa using hn
  rw [Op.eqFields]
  simp only [if_pos hn', Sem.run_bind, ha, hb, he, Result.andThen_ok]
  cases r
  · simp
  · simpa using hr

theorem eqA_of {t : TypeId} {fs : Array Field} (hu : P.underlying t = some (.struct fs)) (hp : P.stoodInHeld t = false) (h : (Op.eqFields d xs ys fs.toList).run P w = .ok r w) : (Op.equalIn (d + 1) t (.agg xs) (.agg ys)).run P w = .ok r w := by
  have hf : P.fieldsOf t = fs := by simp [Program.fieldsOf, hu]
  rw [run_equalIn_struct (P := P) w d t xs ys (by rw [hf]; exact hu) hp, hf]
  exact h
end
end Go.Proofs.YtdiijjdhofaodaaW.PrintWords
end
section
namespace Go.Proofs.YtdiijjdhofaodaaW.PrintWords

theorem Reps.one {α : Type} {R : α → List Value → Prop} {ps : List α} {cs : List Value} {p : α} {v : Value} (hp : R p [v]) (h : Reps R 1 ps cs) : Reps R 1 (p :: ps) (v :: cs) := by
  refine ⟨by simp [h.1], fun j q hq => ?_⟩
  cases j with
  | zero =>
    simp only [List.getElem?_cons_zero, Option.some.injEq] at hq
    subst hq
    simpa using hp
  | succ j =>
    simp only [List.getElem?_cons_succ] at hq
    have h1 := h.2 j q hq
    simpa [Nat.mul_one] using h1

theorem Reps.front {α : Type} {R : α → List Value → Prop} {size : Nat} {ps : List α} {cs c all : List Value} {p : α} (hp : R p c) (hc : c.length = size) (h : Reps R size ps cs) (ha : c ++ cs = all) : Reps R size (p :: ps) all := by
  subst ha
  refine ⟨by rw [List.length_append, hc, h.1, List.length_cons, Nat.succ_mul, Nat.add_comm], fun j q hq => ?_⟩
  cases j with
  | zero =>
    simp only [List.getElem?_cons_zero, Option.some.injEq] at hq
    subst hq
    rw [Nat.zero_mul, List.drop_zero, List.take_append_of_le_length (by omega), List.take_of_length_le (by omega)]
    exact hp
  | succ j =>
    simp only [List.getElem?_cons_succ] at hq
    have h1 := h.2 j q hq
    rw [Nat.succ_mul, List.drop_append, List.drop_of_length_le (by rw [hc]; exact Nat.le_add_left _ _), List.nil_append, hc, Nat.add_sub_cancel]
    exact h1
theorem Reps.c2 {α : Type} {R : α → List Value → Prop} {ps : List α} {cs : List Value} {p : α} {va vb : Value} (hp : R p [va, vb]) (h : Reps R 2 ps cs) : Reps R 2 (p :: ps) (va :: vb :: cs) := Reps.front hp rfl h rfl
theorem Reps.c3 {α : Type} {R : α → List Value → Prop} {ps : List α} {cs : List Value} {p : α} {va vb vc : Value} (hp : R p [va, vb, vc]) (h : Reps R 3 ps cs) : Reps R 3 (p :: ps) (va :: vb :: vc :: cs) := Reps.front hp rfl h rfl
theorem Reps.c4 {α : Type} {R : α → List Value → Prop} {ps : List α} {cs : List Value} {p : α} {va vb vc vd : Value} (hp : R p [va, vb, vc, vd]) (h : Reps R 4 ps cs) : Reps R 4 (p :: ps) (va :: vb :: vc :: vd :: cs) := Reps.front hp rfl h rfl
theorem Reps.c5 {α : Type} {R : α → List Value → Prop} {ps : List α} {cs : List Value} {p : α} {va vb vc vd ve : Value} (hp : R p [va, vb, vc, vd, ve]) (h : Reps R 5 ps cs) : Reps R 5 (p :: ps) (va :: vb :: vc :: vd :: ve :: cs) := Reps.front hp rfl h rfl
theorem Reps.c6 {α : Type} {R : α → List Value → Prop} {ps : List α} {cs : List Value} {p : α} {va vb vc vd ve vf : Value} (hp : R p [va, vb, vc, vd, ve, vf]) (h : Reps R 6 ps cs) : Reps R 6 (p :: ps) (va :: vb :: vc :: vd :: ve :: vf :: cs) := Reps.front hp rfl h rfl
theorem Reps.c7 {α : Type} {R : α → List Value → Prop} {ps : List α} {cs : List Value} {p : α} {va vb vc vd ve vf vg : Value} (hp : R p [va, vb, vc, vd, ve, vf, vg]) (h : Reps R 7 ps cs) : Reps R 7 (p :: ps) (va :: vb :: vc :: vd :: ve :: vf :: vg :: cs) := Reps.front hp rfl h rfl
theorem Reps.c8 {α : Type} {R : α → List Value → Prop} {ps : List α} {cs : List Value} {p : α} {va vb vc vd ve vf vg vh : Value} (hp : R p [va, vb, vc, vd, ve, vf, vg, vh]) (h : Reps R 8 ps cs) : Reps R 8 (p :: ps) (va :: vb :: vc :: vd :: ve :: vf :: vg :: vh :: cs) := Reps.front hp rfl h rfl
theorem Reps.c9 {α : Type} {R : α → List Value → Prop} {ps : List α} {cs : List Value} {p : α} {va vb vc vd ve vf vg vh vi : Value} (hp : R p [va, vb, vc, vd, ve, vf, vg, vh, vi]) (h : Reps R 9 ps cs) : Reps R 9 (p :: ps) (va :: vb :: vc :: vd :: ve :: vf :: vg :: vh :: vi :: cs) := Reps.front hp rfl h rfl
theorem Reps.c10 {α : Type} {R : α → List Value → Prop} {ps : List α} {cs : List Value} {p : α} {va vb vc vd ve vf vg vh vi vj : Value} (hp : R p [va, vb, vc, vd, ve, vf, vg, vh, vi, vj]) (h : Reps R 10 ps cs) : Reps R 10 (p :: ps) (va :: vb :: vc :: vd :: ve :: vf :: vg :: vh :: vi :: vj :: cs) := Reps.front hp rfl h rfl
end Go.Proofs.YtdiijjdhofaodaaW.PrintWords
end
section
namespace Go.Proofs.YtdiijjdhofaodaaW.PrintLast

def up (b : Nat → Bool) (i : Nat) : Nat → Bool := fun j => if j = i then true else b j
section
variable {P : Program} {ops : Array Oper} {Q : Exit → Act → World → Prop} {md : Region.Mode} {T : Bool × List (List Nat × List Nat)} {B : List Nat} {O : List Nat} {b : Nat → Bool} {i j n : Nat}
end
end Go.Proofs.YtdiijjdhofaodaaW.PrintLast
end
section
namespace Go.Proofs.YtdiijjdhofaodaaW.PrintWords
open Go.RowKit

end Go.Proofs.YtdiijjdhofaodaaW.PrintWords
namespace Go.Proofs.YtdiijjdhofaodaaW.PrintLast
section
variable {ops : Array Oper} {a : Act} {o og : Oper} {g : Nat} {t : Tmp} {u : Bool}

end
end Go.Proofs.YtdiijjdhofaodaaW.PrintLast
end
section
namespace Go.Proofs.YtdiijjdhofaodaaW.PrintWords
open Go.RowKit
section
variable {P : Program} {ops : Array Oper} {rest : List Oper} {o : Oper} {a : Act} {Q : Exit → Act → World → Prop} {W : World}

end
end Go.Proofs.YtdiijjdhofaodaaW.PrintWords
end
section
namespace Go.Proofs.Ytdiijjdhofaodaa.PL
open Go.RowKit Go.Proofs.YtdiijjdhofaodaaW.PrintWords Go.Proofs.YtdiijjdhofaodaaW.PrintLast Go.Proofs.YtdiijjdhofaodaaW.PrintMore
attribute [local go_sem] max2_int min2_int max_two min_two max_three min_three max_four min_four   -- for this text's walks alone
set_option linter.unusedVariables false
set_option linter.unusedSimpArgs false



def errW : Option Int → Value
  | none => .nilIface
  | some c => .iface 0 (.int .i64 c)
theorem errW_none : errW none = .nilIface := rfl
theorem errW_some (c : Int) : errW (some c) = .iface 0 (.int .i64 c) := rfl

-- the values' own types

end Go.Proofs.Ytdiijjdhofaodaa.PL
end
section
namespace Go.Proofs.Ytdiijjdhofaodaa.G
open Go Go.RowKit Go.Maps Go.Proofs.YtdiijjdhofaodaaW.PrintWords Go.Proofs.YtdiijjdhofaodaaW.PrintLast Go.Proofs.YtdiijjdhofaodaaW.PrintMore
attribute [local go_sem] max2_int min2_int max_two min_two max_three min_three max_four min_four

theorem law3 : Keyed Try.prog 3 := int_keyed Try.underlying3
theorem zero3 (w : World) : (zeroValue 3).run Try.prog w = .ok (.int .i64 0) w := by kernel_rfl
/-- The zone of a station. -/
def zv (s : Int) : Int := 1 + mx (s - 20) (20 - s) / 4
theorem mx_val (a b : Int) : mx a b = if a < b then b else a := rfl
/-- Block b is the map of the zones of the stations 0 to n - 1. -/
def TabOk (w : World) (b n : Nat) : Prop := ∃ D : DataW Unit, w.ownsMap Try.prog 3 (plainElem Try.prog 3) b n D ∧ Maps.IsMap D ∧
  (∀ (s : Int) (z : DataW Unit), D.atKey (.int .i64 s) z = if 0 ≤ s ∧ s < n then .lit (.int .i64 (zv s)) else z) ∧ ∀ s : Int, Maps.has D (.int .i64 s) = decide (0 ≤ s ∧ s < n)
theorem TabOk.start (w : World) : TabOk (w.alloc (.map #[] 0)) w.heap.size 0 := by
  refine ⟨.map [], World.ownsMap_made _ _ _ _, Maps.isMap_empty, fun s z => ?_, fun s => ?_⟩
  · rw [if_neg (by omega)]; rfl
  · rw [decide_eq_false (by omega)]; rfl
theorem wf_of {n : Int} (h0 : -9223372036854775808 ≤ n) (h1 : n ≤ 9223372036854775807) : (Lit.int .i64 n).wf = true := WalkArith.wf_i64 ⟨h0, h1⟩
theorem lit_ne {a b : Int} (h : a ≠ b) : (Lit.int .i64 a) ≠ .int .i64 b := fun e => h (by injection e)
theorem tab_step {D : DataW Unit} {n : Nat} (hM : Maps.IsMap D) (ha : ∀ (s : Int) (z : DataW Unit), D.atKey (.int .i64 s) z = if 0 ≤ s ∧ s < n then .lit (.int .i64 (zv s)) else z)
    (hh : ∀ s : Int, Maps.has D (.int .i64 s) = decide (0 ≤ s ∧ s < n)) : Maps.IsMap (D.put (.int .i64 (n : Int)) (.lit (.int .i64 (zv n)))) ∧
    (∀ (s : Int) (z : DataW Unit), (D.put (.int .i64 (n : Int)) (.lit (.int .i64 (zv n)))).atKey (.int .i64 s) z = if 0 ≤ s ∧ s < ((n + 1 : Nat) : Int) then .lit (.int .i64 (zv s)) else z) ∧
    ∀ s : Int, Maps.has (D.put (.int .i64 (n : Int)) (.lit (.int .i64 (zv n)))) (.int .i64 s) = decide (0 ≤ s ∧ s < ((n + 1 : Nat) : Int)) := by
  refine ⟨hM.put _ _, fun s z => ?_, fun s => ?_⟩
  · by_cases h : s = n
    · subst h
      rw [Maps.atKey_put_same hM (show WideAt.IsKeyLit (.int .i64 (n : Int)) from trivial), if_pos (by omega)]
    · rw [Maps.atKey_put_other (lit_ne h), ha]
      by_cases h2 : 0 ≤ s ∧ s < n
      · rw [if_pos h2, if_pos (by omega)]
      · rw [if_neg h2, if_neg (by omega)]
  · by_cases h : s = n
    · subst h
      rw [Maps.has_put_same hM (show WideAt.IsKeyLit (.int .i64 (n : Int)) from trivial), decide_eq_true (by omega)]
    · rw [Maps.has_put_other (lit_ne h), hh]
      by_cases h2 : 0 ≤ s ∧ s < n
      · rw [decide_eq_true h2, decide_eq_true (by omega)]
      · rw [decide_eq_false h2, decide_eq_false (by omega)]
theorem away_any (s : Int) (w : World) (h0 : 0 ≤ s) (h1 : s ≤ 40) : Calls Try.prog 74 #[.int .i64 s] w fun e w' => e = .returned (.int .i64 (mx (s - 20) (20 - s))) ∧ w = w' := by
  by_cases h : s - 20 < 20 - s
  · go_enter Try.func74, Try.ntmps74
    go_wp2
    go_ret
    exact ⟨by rw [mx_val, if_pos h]; rfl, rfl⟩
  · go_enter Try.func74, Try.ntmps74
    go_wp2
    go_ret
    exact ⟨by rw [mx_val, if_neg (by omega)]; rfl, rfl⟩
theorem table_any (w : World) : Calls Try.prog 66 #[] w fun e w' => e = .returned (.map (some w.heap.size)) ∧ TabOk w' w.heap.size 40 ∧ Below w.heap.size w w' := by
  have hmm := @run_makeMap Try.prog
  go_enter Try.func66, Try.ntmps66
  go_wp2
  go_loopw [4] (fun i wr => ∃ k : Nat, k ≤ 40 ∧ i = .int .i64 k ∧ TabOk wr w.heap.size k ∧ Below w.heap.size w wr) (fun i _ => 40 - (intOf i).toNat)
  case atStart => exact ⟨0, by omega, rfl, TabOk.start w, (Below.refl _ _).alloc (Nat.le_refl _) _⟩
  case round =>
    obtain ⟨k, hk, rfl, ⟨D, hown, hM, ha, hh⟩, hnx⟩ := hrel
    have HA := Lib.hid ha
    have HH := Lib.hid hh
    clear ha hh
    by_cases hlt : k < 40
    · have hm0 : 0 ≤ mx ((k : Int) - 20) (20 - k) := by rw [mx_val]; split <;> omega
      have hm1 : mx ((k : Int) - 20) (20 - k) ≤ 20 := by rw [mx_val]; split <;> omega
      go_wp2_with (first
        | (go_at_call 74; refine (away_any _ _ (by omega) (by omega)).mono ?_; rintro e w' ⟨rfl, rfl⟩)
        | (at_mapUpdate; refine wpList_mapUpdate_own _ rfl _ _ _ 74 rfl 3 3 law3 Try.underlying74 _ w.heap.size k D rfl hown (by unfold maxLen; omega) _ _ _ rfl rfl (keyOf_int_mk Try.underlying3 (wf_of (by omega) (by omega))) _ [] (plainElem_int Try.underlying3 (wf_of (by omega) (by omega))) ?_; intro w1 hown1 hgrow1))
      go_roundw
      case rel =>
        obtain ⟨s1, s2, s3⟩ := tab_step hM HA.out HH.out
        exact ⟨k + 1, by omega, by go_num, ⟨_, hown1, s1, s2, s3⟩, hnx.grown hgrow1 hnx.size (fun j hj => by cases hj; exact Nat.le_refl _)⟩
      case measure => simp [intOf]; omega
    · have hk40 : k = 40 := by omega
      subst hk40
      go_wp2
      go_ret
      exact ⟨rfl, ⟨D, hown, hM, HA.out, HH.out⟩, hnx⟩
end Go.Proofs.Ytdiijjdhofaodaa.G
end
section
namespace Go.Proofs.Ytdiijjdhofaodaa.G
open Go Go.RowKit Go.Proofs.YtdiijjdhofaodaaW.PrintWords Go.Proofs.YtdiijjdhofaodaaW.PrintLast Go.Proofs.YtdiijjdhofaodaaW.PrintMore
def betw (n l m : Int) : Bool := decide (l ≤ n ∧ n ≤ m)
theorem within_any (n l m : Int) (w : World) : Calls Try.prog 53 #[.int .i64 n, .int .i64 l, .int .i64 m] w fun e w' => e = .returned (.bool (betw n l m)) ∧ w = w' := by
  by_cases h : l ≤ n
  · rw [show betw n l m = decide (n ≤ m) by unfold betw; exact decide_eq_decide.2 (by omega)]
    go_enter Try.func53, Try.ntmps53
    go_wp2
    go_ret
    exact ⟨rfl, rfl⟩
  · rw [show betw n l m = false by unfold betw; exact decide_eq_false (by omega)]
    go_enter Try.func53, Try.ntmps53
    go_wp2
    go_ret
    exact ⟨rfl, rfl⟩
def lisB (s : Int) : Bool := decide (0 ≤ s ∧ s < 40)
theorem lis_any (s : Int) (w : World) : Calls Try.prog 43 #[.int .i64 s] w fun e w' => e = .returned (.bool (lisB s)) ∧ w = w' := by
  by_cases h : 0 ≤ s
  · rw [show lisB s = decide (s < 40) by unfold lisB; exact decide_eq_decide.2 (by omega)]
    go_enter Try.func43, Try.ntmps43
    go_wp2
    go_ret
    exact ⟨rfl, rfl⟩
  · rw [show lisB s = false by unfold lisB; exact decide_eq_false (by omega)]
    go_enter Try.func43, Try.ntmps43
    go_wp2
    go_ret
    exact ⟨rfl, rfl⟩
theorem zones_call (x0 x1 x2 x3 x4 x5 x6 x7 x8 x9 x10 : Int) (w : World) : Calls Try.prog 57 #[.agg #[.int .i64 x0, .int .i64 x1, .int .i64 x2, .int .i64 x3, .int .i64 x4, .int .i64 x5, .int .i64 x6, .int .i64 x7, .int .i64 x8, .int .i64 x9, .int .i64 x10]] w fun e w' => e = .returned (.bool (betw x2 1 6 && betw x3 x2 6)) ∧ w' = w.alloc (.cells #[.int .i64 x0, .int .i64 x1, .int .i64 x2, .int .i64 x3, .int .i64 x4, .int .i64 x5, .int .i64 x6, .int .i64 x7, .int .i64 x8, .int .i64 x9, .int .i64 x10] 68) := by
  cases hb : betw x2 1 6
  · go_enter Try.func57, Try.ntmps57
    go_wp2_with (go_at_call 53; refine (within_any _ _ _ _).mono ?_; rintro e w' ⟨rfl, rfl⟩; (try rw [hb]))
    go_ret
    exact ⟨rfl, rfl⟩
  · go_enter Try.func57, Try.ntmps57
    go_wp2_with (go_at_call 53; refine (within_any _ _ _ _).mono ?_; rintro e w' ⟨rfl, rfl⟩; (try rw [hb]))
    go_ret
    exact ⟨rfl, rfl⟩
theorem way_call (x0 x1 x2 x3 x4 x5 x6 x7 x8 x9 x10 : Int) (w : World) : Calls Try.prog 58 #[.agg #[.int .i64 x0, .int .i64 x1, .int .i64 x2, .int .i64 x3, .int .i64 x4, .int .i64 x5, .int .i64 x6, .int .i64 x7, .int .i64 x8, .int .i64 x9, .int .i64 x10]] w fun e w' => e = .returned (.bool (lisB x2 && lisB x3 && (x2 != x3))) ∧ w' = w.alloc (.cells #[.int .i64 x0, .int .i64 x1, .int .i64 x2, .int .i64 x3, .int .i64 x4, .int .i64 x5, .int .i64 x6, .int .i64 x7, .int .i64 x8, .int .i64 x9, .int .i64 x10] 68) := by
  cases hb : lisB x2 <;> cases hc : lisB x3
  all_goals
    go_enter Try.func58, Try.ntmps58
    go_wp2_with (go_at_call 43; refine (lis_any _ _).mono ?_; rintro e w' ⟨rfl, rfl⟩; (try rw [hb]); (try rw [hc]))
    go_ret
    exact ⟨rfl, rfl⟩
def usesB (x1 x9 : Int) : Bool := if x1 = 1 then x9 == 1 else if x1 = 2 then x9 == 2 else if x1 = 3 then x9 == 0 else betw x9 2 20
theorem uses_call (x0 x1 x2 x3 x4 x5 x6 x7 x8 x9 x10 : Int) (w : World) : Calls Try.prog 59 #[.agg #[.int .i64 x0, .int .i64 x1, .int .i64 x2, .int .i64 x3, .int .i64 x4, .int .i64 x5, .int .i64 x6, .int .i64 x7, .int .i64 x8, .int .i64 x9, .int .i64 x10]] w fun e w' => e = .returned (.bool (usesB x1 x9)) ∧ w' = w.alloc (.cells #[.int .i64 x0, .int .i64 x1, .int .i64 x2, .int .i64 x3, .int .i64 x4, .int .i64 x5, .int .i64 x6, .int .i64 x7, .int .i64 x8, .int .i64 x9, .int .i64 x10] 68) := by
  unfold usesB
  by_cases h1 : x1 = 1
  · rw [if_pos h1]
    subst h1
    go_enter Try.func59, Try.ntmps59
    go_wp2
    go_ret
    exact ⟨rfl, rfl⟩
  rw [if_neg h1]
  by_cases h2 : x1 = 2
  · rw [if_pos h2]
    subst h2
    go_enter Try.func59, Try.ntmps59
    go_wp2
    go_ret
    exact ⟨rfl, rfl⟩
  rw [if_neg h2]
  by_cases h3 : x1 = 3
  · rw [if_pos h3]
    subst h3
    go_enter Try.func59, Try.ntmps59
    go_wp2
    go_ret
    exact ⟨rfl, rfl⟩
  rw [if_neg h3]
  have e1 : (x1 == 1) = false := beq_eq_false_iff_ne.2 h1
  have e2 : (x1 == 2) = false := beq_eq_false_iff_ne.2 h2
  have e3 : (x1 == 3) = false := beq_eq_false_iff_ne.2 h3
  go_enter Try.func59, Try.ntmps59
  go_wp2_with (go_at_call 53; refine (within_any _ _ _ _).mono ?_; rintro e w' ⟨rfl, rfl⟩)
  go_ret
  exact ⟨rfl, rfl⟩
end Go.Proofs.Ytdiijjdhofaodaa.G
end
section
namespace Go.Proofs.Ytdiijjdhofaodaa.G
open Go Go.RowKit Go.Proofs.YtdiijjdhofaodaaW.PrintWords Go.Proofs.YtdiijjdhofaodaaW.PrintLast Go.Proofs.YtdiijjdhofaodaaW.PrintMore
theorem within_eq {n l m : Int} {b : Bool} (h : betw n l m = b) (w : World) : Calls Try.prog 53 #[.int .i64 n, .int .i64 l, .int .i64 m] w fun e w' => e = .returned (.bool b) ∧ w = w' := h ▸ within_any n l m w
theorem tw64 {x : Int} (h0 : -9223372036854775808 ≤ x) (h1 : x ≤ 9223372036854775807) : wrap64 x = x := by
  unfold wrap64
  omega
def zonesB (x2 x3 : Int) : Bool := betw x2 1 6 && betw x3 x2 6
def wayB (x2 x3 : Int) : Bool := lisB x2 && lisB x3 && (x2 != x3)
def paperW (w : World) (x0 x1 x2 x3 x4 x5 x6 x7 x8 x9 x10 : Int) : World := w.alloc (.cells #[.int .i64 x0, .int .i64 x1, .int .i64 x2, .int .i64 x3, .int .i64 x4, .int .i64 x5, .int .i64 x6, .int .i64 x7, .int .i64 x8, .int .i64 x9, .int .i64 x10] 68)
theorem zones_eq {b : Bool} (x0 x1 x2 x3 x4 x5 x6 x7 x8 x9 x10 : Int) (h : zonesB x2 x3 = b) (w : World) : Calls Try.prog 57 #[.agg #[.int .i64 x0, .int .i64 x1, .int .i64 x2, .int .i64 x3, .int .i64 x4, .int .i64 x5, .int .i64 x6, .int .i64 x7, .int .i64 x8, .int .i64 x9, .int .i64 x10]] w fun e w' => e = .returned (.bool b) ∧ w' = w.alloc (.cells #[.int .i64 x0, .int .i64 x1, .int .i64 x2, .int .i64 x3, .int .i64 x4, .int .i64 x5, .int .i64 x6, .int .i64 x7, .int .i64 x8, .int .i64 x9, .int .i64 x10] 68) := h ▸ zones_call x0 x1 x2 x3 x4 x5 x6 x7 x8 x9 x10 w
theorem way_eq {b : Bool} (x0 x1 x2 x3 x4 x5 x6 x7 x8 x9 x10 : Int) (h : wayB x2 x3 = b) (w : World) : Calls Try.prog 58 #[.agg #[.int .i64 x0, .int .i64 x1, .int .i64 x2, .int .i64 x3, .int .i64 x4, .int .i64 x5, .int .i64 x6, .int .i64 x7, .int .i64 x8, .int .i64 x9, .int .i64 x10]] w fun e w' => e = .returned (.bool b) ∧ w' = w.alloc (.cells #[.int .i64 x0, .int .i64 x1, .int .i64 x2, .int .i64 x3, .int .i64 x4, .int .i64 x5, .int .i64 x6, .int .i64 x7, .int .i64 x8, .int .i64 x9, .int .i64 x10] 68) := h ▸ way_call x0 x1 x2 x3 x4 x5 x6 x7 x8 x9 x10 w
set_option maxRecDepth 100000 in
set_option maxHeartbeats 1000000 in
theorem is_no0 (x0 x1 x2 x3 x4 x5 x6 x7 x8 x9 x10 : Int) (w : World) (h0 : betw x0 1 1099511627776 = false) : Calls Try.prog 30 #[.agg #[.int .i64 x0, .int .i64 x1, .int .i64 x2, .int .i64 x3, .int .i64 x4, .int .i64 x5, .int .i64 x6, .int .i64 x7, .int .i64 x8, .int .i64 x9, .int .i64 x10]] w fun e w' => e = .returned (.bool false) ∧ Below w.heap.size w w' := by
  go_enter Try.func30, Try.ntmps30
  go_wp2_with (first
    | (go_at_call 53; refine (within_eq (by assumption) _).mono ?_; rintro e w' ⟨rfl, rfl⟩)
    | (go_at_call 57; refine (zones_eq _ _ _ _ _ _ _ _ _ _ _ (by assumption) _).mono ?_; rintro e w' ⟨rfl, rfl⟩)
    | (go_at_call 58; refine (way_eq _ _ _ _ _ _ _ _ _ _ _ (by assumption) _).mono ?_; rintro e w' ⟨rfl, rfl⟩)
    | (go_at_call 59; refine (uses_call _ _ _ _ _ _ _ _ _ _ _ _).mono ?_; rintro e w' ⟨rfl, rfl⟩)
    | go_in)
  go_ret
  exact ⟨rfl, by repeat' (first | exact Below.refl _ _ | refine Below.alloc ?_ (by first | exact Nat.le_refl _ | (simp only [World.size_alloc]; omega)) _)⟩
set_option maxRecDepth 100000 in
set_option maxHeartbeats 1000000 in
theorem is_no1 (x0 x1 x2 x3 x4 x5 x6 x7 x8 x9 x10 : Int) (w : World) (h0 : betw x0 1 1099511627776 = true) (h1 : betw x1 1 4 = false) : Calls Try.prog 30 #[.agg #[.int .i64 x0, .int .i64 x1, .int .i64 x2, .int .i64 x3, .int .i64 x4, .int .i64 x5, .int .i64 x6, .int .i64 x7, .int .i64 x8, .int .i64 x9, .int .i64 x10]] w fun e w' => e = .returned (.bool false) ∧ Below w.heap.size w w' := by
  go_enter Try.func30, Try.ntmps30
  go_wp2_with (first
    | (go_at_call 53; refine (within_eq (by assumption) _).mono ?_; rintro e w' ⟨rfl, rfl⟩)
    | (go_at_call 57; refine (zones_eq _ _ _ _ _ _ _ _ _ _ _ (by assumption) _).mono ?_; rintro e w' ⟨rfl, rfl⟩)
    | (go_at_call 58; refine (way_eq _ _ _ _ _ _ _ _ _ _ _ (by assumption) _).mono ?_; rintro e w' ⟨rfl, rfl⟩)
    | (go_at_call 59; refine (uses_call _ _ _ _ _ _ _ _ _ _ _ _).mono ?_; rintro e w' ⟨rfl, rfl⟩)
    | go_in)
  go_ret
  exact ⟨rfl, by repeat' (first | exact Below.refl _ _ | refine Below.alloc ?_ (by first | exact Nat.le_refl _ | (simp only [World.size_alloc]; omega)) _)⟩
set_option maxRecDepth 100000 in
set_option maxHeartbeats 1000000 in
theorem is_no2 (x0 x1 x2 x3 x4 x5 x6 x7 x8 x9 x10 : Int) (w : World) (h0 : betw x0 1 1099511627776 = true) (h1 : betw x1 1 4 = true) (h2 : betw x4 1 2 = false) : Calls Try.prog 30 #[.agg #[.int .i64 x0, .int .i64 x1, .int .i64 x2, .int .i64 x3, .int .i64 x4, .int .i64 x5, .int .i64 x6, .int .i64 x7, .int .i64 x8, .int .i64 x9, .int .i64 x10]] w fun e w' => e = .returned (.bool false) ∧ Below w.heap.size w w' := by
  go_enter Try.func30, Try.ntmps30
  go_wp2_with (first
    | (go_at_call 53; refine (within_eq (by assumption) _).mono ?_; rintro e w' ⟨rfl, rfl⟩)
    | (go_at_call 57; refine (zones_eq _ _ _ _ _ _ _ _ _ _ _ (by assumption) _).mono ?_; rintro e w' ⟨rfl, rfl⟩)
    | (go_at_call 58; refine (way_eq _ _ _ _ _ _ _ _ _ _ _ (by assumption) _).mono ?_; rintro e w' ⟨rfl, rfl⟩)
    | (go_at_call 59; refine (uses_call _ _ _ _ _ _ _ _ _ _ _ _).mono ?_; rintro e w' ⟨rfl, rfl⟩)
    | go_in)
  go_ret
  exact ⟨rfl, by repeat' (first | exact Below.refl _ _ | refine Below.alloc ?_ (by first | exact Nat.le_refl _ | (simp only [World.size_alloc]; omega)) _)⟩
set_option maxRecDepth 100000 in
set_option maxHeartbeats 1000000 in
theorem is_no3 (x0 x1 x2 x3 x4 x5 x6 x7 x8 x9 x10 : Int) (w : World) (h0 : betw x0 1 1099511627776 = true) (h1 : betw x1 1 4 = true) (h2 : betw x4 1 2 = true) (h3 : betw x5 0 3 = false) : Calls Try.prog 30 #[.agg #[.int .i64 x0, .int .i64 x1, .int .i64 x2, .int .i64 x3, .int .i64 x4, .int .i64 x5, .int .i64 x6, .int .i64 x7, .int .i64 x8, .int .i64 x9, .int .i64 x10]] w fun e w' => e = .returned (.bool false) ∧ Below w.heap.size w w' := by
  go_enter Try.func30, Try.ntmps30
  go_wp2_with (first
    | (go_at_call 53; refine (within_eq (by assumption) _).mono ?_; rintro e w' ⟨rfl, rfl⟩)
    | (go_at_call 57; refine (zones_eq _ _ _ _ _ _ _ _ _ _ _ (by assumption) _).mono ?_; rintro e w' ⟨rfl, rfl⟩)
    | (go_at_call 58; refine (way_eq _ _ _ _ _ _ _ _ _ _ _ (by assumption) _).mono ?_; rintro e w' ⟨rfl, rfl⟩)
    | (go_at_call 59; refine (uses_call _ _ _ _ _ _ _ _ _ _ _ _).mono ?_; rintro e w' ⟨rfl, rfl⟩)
    | go_in)
  go_ret
  exact ⟨rfl, by repeat' (first | exact Below.refl _ _ | refine Below.alloc ?_ (by first | exact Nat.le_refl _ | (simp only [World.size_alloc]; omega)) _)⟩
set_option maxRecDepth 100000 in
set_option maxHeartbeats 1000000 in
theorem is_no4 (x0 x1 x2 x3 x4 x5 x6 x7 x8 x9 x10 : Int) (w : World) (h0 : betw x0 1 1099511627776 = true) (h1 : betw x1 1 4 = true) (h2 : betw x4 1 2 = true) (h3 : betw x5 0 3 = true) (h4 : betw x6 0 999 = false) : Calls Try.prog 30 #[.agg #[.int .i64 x0, .int .i64 x1, .int .i64 x2, .int .i64 x3, .int .i64 x4, .int .i64 x5, .int .i64 x6, .int .i64 x7, .int .i64 x8, .int .i64 x9, .int .i64 x10]] w fun e w' => e = .returned (.bool false) ∧ Below w.heap.size w w' := by
  go_enter Try.func30, Try.ntmps30
  go_wp2_with (first
    | (go_at_call 53; refine (within_eq (by assumption) _).mono ?_; rintro e w' ⟨rfl, rfl⟩)
    | (go_at_call 57; refine (zones_eq _ _ _ _ _ _ _ _ _ _ _ (by assumption) _).mono ?_; rintro e w' ⟨rfl, rfl⟩)
    | (go_at_call 58; refine (way_eq _ _ _ _ _ _ _ _ _ _ _ (by assumption) _).mono ?_; rintro e w' ⟨rfl, rfl⟩)
    | (go_at_call 59; refine (uses_call _ _ _ _ _ _ _ _ _ _ _ _).mono ?_; rintro e w' ⟨rfl, rfl⟩)
    | go_in)
  go_ret
  exact ⟨rfl, by repeat' (first | exact Below.refl _ _ | refine Below.alloc ?_ (by first | exact Nat.le_refl _ | (simp only [World.size_alloc]; omega)) _)⟩
set_option maxRecDepth 100000 in
set_option maxHeartbeats 1000000 in
theorem is_no5 (x0 x1 x2 x3 x4 x5 x6 x7 x8 x9 x10 : Int) (w : World) (h0 : betw x0 1 1099511627776 = true) (h1 : betw x1 1 4 = true) (h2 : betw x4 1 2 = true) (h3 : betw x5 0 3 = true) (h4 : betw x6 0 999 = true) (h5 : betw x7 0 99999 = false) : Calls Try.prog 30 #[.agg #[.int .i64 x0, .int .i64 x1, .int .i64 x2, .int .i64 x3, .int .i64 x4, .int .i64 x5, .int .i64 x6, .int .i64 x7, .int .i64 x8, .int .i64 x9, .int .i64 x10]] w fun e w' => e = .returned (.bool false) ∧ Below w.heap.size w w' := by
  go_enter Try.func30, Try.ntmps30
  go_wp2_with (first
    | (go_at_call 53; refine (within_eq (by assumption) _).mono ?_; rintro e w' ⟨rfl, rfl⟩)
    | (go_at_call 57; refine (zones_eq _ _ _ _ _ _ _ _ _ _ _ (by assumption) _).mono ?_; rintro e w' ⟨rfl, rfl⟩)
    | (go_at_call 58; refine (way_eq _ _ _ _ _ _ _ _ _ _ _ (by assumption) _).mono ?_; rintro e w' ⟨rfl, rfl⟩)
    | (go_at_call 59; refine (uses_call _ _ _ _ _ _ _ _ _ _ _ _).mono ?_; rintro e w' ⟨rfl, rfl⟩)
    | go_in)
  go_ret
  exact ⟨rfl, by repeat' (first | exact Below.refl _ _ | refine Below.alloc ?_ (by first | exact Nat.le_refl _ | (simp only [World.size_alloc]; omega)) _)⟩
set_option maxRecDepth 100000 in
set_option maxHeartbeats 1000000 in
theorem is_no6 (x0 x1 x2 x3 x4 x5 x6 x7 x8 x9 x10 : Int) (w : World) (h0 : betw x0 1 1099511627776 = true) (h1 : betw x1 1 4 = true) (h2 : betw x4 1 2 = true) (h3 : betw x5 0 3 = true) (h4 : betw x6 0 999 = true) (h5 : betw x7 0 99999 = true) (h6 : betw x8 1 999 = false) : Calls Try.prog 30 #[.agg #[.int .i64 x0, .int .i64 x1, .int .i64 x2, .int .i64 x3, .int .i64 x4, .int .i64 x5, .int .i64 x6, .int .i64 x7, .int .i64 x8, .int .i64 x9, .int .i64 x10]] w fun e w' => e = .returned (.bool false) ∧ Below w.heap.size w w' := by
  go_enter Try.func30, Try.ntmps30
  go_wp2_with (first
    | (go_at_call 53; refine (within_eq (by assumption) _).mono ?_; rintro e w' ⟨rfl, rfl⟩)
    | (go_at_call 57; refine (zones_eq _ _ _ _ _ _ _ _ _ _ _ (by assumption) _).mono ?_; rintro e w' ⟨rfl, rfl⟩)
    | (go_at_call 58; refine (way_eq _ _ _ _ _ _ _ _ _ _ _ (by assumption) _).mono ?_; rintro e w' ⟨rfl, rfl⟩)
    | (go_at_call 59; refine (uses_call _ _ _ _ _ _ _ _ _ _ _ _).mono ?_; rintro e w' ⟨rfl, rfl⟩)
    | go_in)
  go_ret
  exact ⟨rfl, by repeat' (first | exact Below.refl _ _ | refine Below.alloc ?_ (by first | exact Nat.le_refl _ | (simp only [World.size_alloc]; omega)) _)⟩
set_option maxRecDepth 100000 in
set_option maxHeartbeats 1000000 in
theorem is_no7 (x0 x1 x2 x3 x4 x5 x6 x7 x8 x9 x10 : Int) (w : World) (h0 : betw x0 1 1099511627776 = true) (h1 : betw x1 1 4 = true) (h2 : betw x4 1 2 = true) (h3 : betw x5 0 3 = true) (h4 : betw x6 0 999 = true) (h5 : betw x7 0 99999 = true) (h6 : betw x8 1 999 = true) (h7 : 100000 < x7 + x8) : Calls Try.prog 30 #[.agg #[.int .i64 x0, .int .i64 x1, .int .i64 x2, .int .i64 x3, .int .i64 x4, .int .i64 x5, .int .i64 x6, .int .i64 x7, .int .i64 x8, .int .i64 x9, .int .i64 x10]] w fun e w' => e = .returned (.bool false) ∧ Below w.heap.size w w' := by
  have k7 := of_decide_eq_true h5
  have k8 := of_decide_eq_true h6
  have ks : wrap64 (x7 + x8) = x7 + x8 := tw64 (by omega) (by omega)
  go_enter Try.func30, Try.ntmps30
  go_wp2_with (first
    | (go_at_call 53; refine (within_eq (by assumption) _).mono ?_; rintro e w' ⟨rfl, rfl⟩)
    | (go_at_call 57; refine (zones_eq _ _ _ _ _ _ _ _ _ _ _ (by assumption) _).mono ?_; rintro e w' ⟨rfl, rfl⟩)
    | (go_at_call 58; refine (way_eq _ _ _ _ _ _ _ _ _ _ _ (by assumption) _).mono ?_; rintro e w' ⟨rfl, rfl⟩)
    | (go_at_call 59; refine (uses_call _ _ _ _ _ _ _ _ _ _ _ _).mono ?_; rintro e w' ⟨rfl, rfl⟩)
    | go_in)
  go_ret
  exact ⟨rfl, by repeat' (first | exact Below.refl _ _ | refine Below.alloc ?_ (by first | exact Nat.le_refl _ | (simp only [World.size_alloc]; omega)) _)⟩
set_option maxRecDepth 100000 in
set_option maxHeartbeats 1000000 in
theorem is_no8 (x0 x1 x2 x3 x4 x5 x6 x7 x8 x9 x10 : Int) (w : World) (h0 : betw x0 1 1099511627776 = true) (h1 : betw x1 1 4 = true) (h2 : betw x4 1 2 = true) (h3 : betw x5 0 3 = true) (h4 : betw x6 0 999 = true) (h5 : betw x7 0 99999 = true) (h6 : betw x8 1 999 = true) (h7 : x7 + x8 ≤ 100000) (h8 : betw x10 0 9 = false) : Calls Try.prog 30 #[.agg #[.int .i64 x0, .int .i64 x1, .int .i64 x2, .int .i64 x3, .int .i64 x4, .int .i64 x5, .int .i64 x6, .int .i64 x7, .int .i64 x8, .int .i64 x9, .int .i64 x10]] w fun e w' => e = .returned (.bool false) ∧ Below w.heap.size w w' := by
  have k7 := of_decide_eq_true h5
  have k8 := of_decide_eq_true h6
  have ks : wrap64 (x7 + x8) = x7 + x8 := tw64 (by omega) (by omega)
  go_enter Try.func30, Try.ntmps30
  go_wp2_with (first
    | (go_at_call 53; refine (within_eq (by assumption) _).mono ?_; rintro e w' ⟨rfl, rfl⟩)
    | (go_at_call 57; refine (zones_eq _ _ _ _ _ _ _ _ _ _ _ (by assumption) _).mono ?_; rintro e w' ⟨rfl, rfl⟩)
    | (go_at_call 58; refine (way_eq _ _ _ _ _ _ _ _ _ _ _ (by assumption) _).mono ?_; rintro e w' ⟨rfl, rfl⟩)
    | (go_at_call 59; refine (uses_call _ _ _ _ _ _ _ _ _ _ _ _).mono ?_; rintro e w' ⟨rfl, rfl⟩)
    | go_in)
  go_ret
  exact ⟨rfl, by repeat' (first | exact Below.refl _ _ | refine Below.alloc ?_ (by first | exact Nat.le_refl _ | (simp only [World.size_alloc]; omega)) _)⟩
set_option maxRecDepth 100000 in
set_option maxHeartbeats 1000000 in
theorem is_season_no (x0 x2 x3 x4 x5 x6 x7 x8 x9 x10 : Int) (w : World) (h0 : betw x0 1 1099511627776 = true) (h2 : betw x4 1 2 = true) (h3 : betw x5 0 3 = true) (h4 : betw x6 0 999 = true) (h5 : betw x7 0 99999 = true) (h6 : betw x8 1 999 = true) (h7 : x7 + x8 ≤ 100000) (h8 : betw x10 0 9 = true) (hz : zonesB x2 x3 = false) : Calls Try.prog 30 #[.agg #[.int .i64 x0, .int .i64 3, .int .i64 x2, .int .i64 x3, .int .i64 x4, .int .i64 x5, .int .i64 x6, .int .i64 x7, .int .i64 x8, .int .i64 x9, .int .i64 x10]] w fun e w' => e = .returned (.bool false) ∧ Below w.heap.size w w' := by
  have k7 := of_decide_eq_true h5
  have k8 := of_decide_eq_true h6
  have ks : wrap64 (x7 + x8) = x7 + x8 := tw64 (by omega) (by omega)
  have h1 : betw 3 1 4 = true := rfl
  go_enter Try.func30, Try.ntmps30
  go_wp2_with (first
    | (go_at_call 53; refine (within_eq (by assumption) _).mono ?_; rintro e w' ⟨rfl, rfl⟩)
    | (go_at_call 57; refine (zones_eq _ _ _ _ _ _ _ _ _ _ _ (by assumption) _).mono ?_; rintro e w' ⟨rfl, rfl⟩)
    | (go_at_call 58; refine (way_eq _ _ _ _ _ _ _ _ _ _ _ (by assumption) _).mono ?_; rintro e w' ⟨rfl, rfl⟩)
    | (go_at_call 59; refine (uses_call _ _ _ _ _ _ _ _ _ _ _ _).mono ?_; rintro e w' ⟨rfl, rfl⟩)
    | go_in)
  go_ret
  exact ⟨rfl, by repeat' (first | exact Below.refl _ _ | refine Below.alloc ?_ (by first | exact Nat.le_refl _ | (simp only [World.size_alloc]; omega)) _)⟩
set_option maxRecDepth 100000 in
set_option maxHeartbeats 1000000 in
theorem is_season_yes (x0 x2 x3 x4 x5 x6 x7 x8 x9 x10 : Int) (w : World) (h0 : betw x0 1 1099511627776 = true) (h2 : betw x4 1 2 = true) (h3 : betw x5 0 3 = true) (h4 : betw x6 0 999 = true) (h5 : betw x7 0 99999 = true) (h6 : betw x8 1 999 = true) (h7 : x7 + x8 ≤ 100000) (h8 : betw x10 0 9 = true) (hz : zonesB x2 x3 = true) : Calls Try.prog 30 #[.agg #[.int .i64 x0, .int .i64 3, .int .i64 x2, .int .i64 x3, .int .i64 x4, .int .i64 x5, .int .i64 x6, .int .i64 x7, .int .i64 x8, .int .i64 x9, .int .i64 x10]] w fun e w' => e = .returned (.bool (usesB 3 x9)) ∧ Below w.heap.size w w' := by
  have k7 := of_decide_eq_true h5
  have k8 := of_decide_eq_true h6
  have ks : wrap64 (x7 + x8) = x7 + x8 := tw64 (by omega) (by omega)
  have h1 : betw 3 1 4 = true := rfl
  go_enter Try.func30, Try.ntmps30
  go_wp2_with (first
    | (go_at_call 53; refine (within_eq (by assumption) _).mono ?_; rintro e w' ⟨rfl, rfl⟩)
    | (go_at_call 57; refine (zones_eq _ _ _ _ _ _ _ _ _ _ _ (by assumption) _).mono ?_; rintro e w' ⟨rfl, rfl⟩)
    | (go_at_call 58; refine (way_eq _ _ _ _ _ _ _ _ _ _ _ (by assumption) _).mono ?_; rintro e w' ⟨rfl, rfl⟩)
    | (go_at_call 59; refine (uses_call _ _ _ _ _ _ _ _ _ _ _ _).mono ?_; rintro e w' ⟨rfl, rfl⟩)
    | go_in)
  go_ret
  exact ⟨rfl, by repeat' (first | exact Below.refl _ _ | refine Below.alloc ?_ (by first | exact Nat.le_refl _ | (simp only [World.size_alloc]; omega)) _)⟩
set_option maxRecDepth 100000 in
set_option maxHeartbeats 1000000 in
theorem is_other_no (x0 x1 x2 x3 x4 x5 x6 x7 x8 x9 x10 : Int) (w : World) (h0 : betw x0 1 1099511627776 = true) (h1 : betw x1 1 4 = true) (h2 : betw x4 1 2 = true) (h3 : betw x5 0 3 = true) (h4 : betw x6 0 999 = true) (h5 : betw x7 0 99999 = true) (h6 : betw x8 1 999 = true) (h7 : x7 + x8 ≤ 100000) (h8 : betw x10 0 9 = true) (hk : x1 ≠ 3) (hz : wayB x2 x3 = false) : Calls Try.prog 30 #[.agg #[.int .i64 x0, .int .i64 x1, .int .i64 x2, .int .i64 x3, .int .i64 x4, .int .i64 x5, .int .i64 x6, .int .i64 x7, .int .i64 x8, .int .i64 x9, .int .i64 x10]] w fun e w' => e = .returned (.bool false) ∧ Below w.heap.size w w' := by
  have k7 := of_decide_eq_true h5
  have k8 := of_decide_eq_true h6
  have ks : wrap64 (x7 + x8) = x7 + x8 := tw64 (by omega) (by omega)
  have e3 : (x1 == 3) = false := beq_eq_false_iff_ne.2 hk
  go_enter Try.func30, Try.ntmps30
  go_wp2_with (first
    | (go_at_call 53; refine (within_eq (by assumption) _).mono ?_; rintro e w' ⟨rfl, rfl⟩)
    | (go_at_call 57; refine (zones_eq _ _ _ _ _ _ _ _ _ _ _ (by assumption) _).mono ?_; rintro e w' ⟨rfl, rfl⟩)
    | (go_at_call 58; refine (way_eq _ _ _ _ _ _ _ _ _ _ _ (by assumption) _).mono ?_; rintro e w' ⟨rfl, rfl⟩)
    | (go_at_call 59; refine (uses_call _ _ _ _ _ _ _ _ _ _ _ _).mono ?_; rintro e w' ⟨rfl, rfl⟩)
    | go_in)
  go_ret
  exact ⟨rfl, by repeat' (first | exact Below.refl _ _ | refine Below.alloc ?_ (by first | exact Nat.le_refl _ | (simp only [World.size_alloc]; omega)) _)⟩
set_option maxRecDepth 100000 in
set_option maxHeartbeats 1000000 in
theorem is_other_yes (x0 x1 x2 x3 x4 x5 x6 x7 x8 x9 x10 : Int) (w : World) (h0 : betw x0 1 1099511627776 = true) (h1 : betw x1 1 4 = true) (h2 : betw x4 1 2 = true) (h3 : betw x5 0 3 = true) (h4 : betw x6 0 999 = true) (h5 : betw x7 0 99999 = true) (h6 : betw x8 1 999 = true) (h7 : x7 + x8 ≤ 100000) (h8 : betw x10 0 9 = true) (hk : x1 ≠ 3) (hz : wayB x2 x3 = true) : Calls Try.prog 30 #[.agg #[.int .i64 x0, .int .i64 x1, .int .i64 x2, .int .i64 x3, .int .i64 x4, .int .i64 x5, .int .i64 x6, .int .i64 x7, .int .i64 x8, .int .i64 x9, .int .i64 x10]] w fun e w' => e = .returned (.bool (usesB x1 x9)) ∧ Below w.heap.size w w' := by
  have k7 := of_decide_eq_true h5
  have k8 := of_decide_eq_true h6
  have ks : wrap64 (x7 + x8) = x7 + x8 := tw64 (by omega) (by omega)
  have e3 : (x1 == 3) = false := beq_eq_false_iff_ne.2 hk
  go_enter Try.func30, Try.ntmps30
  go_wp2_with (first
    | (go_at_call 53; refine (within_eq (by assumption) _).mono ?_; rintro e w' ⟨rfl, rfl⟩)
    | (go_at_call 57; refine (zones_eq _ _ _ _ _ _ _ _ _ _ _ (by assumption) _).mono ?_; rintro e w' ⟨rfl, rfl⟩)
    | (go_at_call 58; refine (way_eq _ _ _ _ _ _ _ _ _ _ _ (by assumption) _).mono ?_; rintro e w' ⟨rfl, rfl⟩)
    | (go_at_call 59; refine (uses_call _ _ _ _ _ _ _ _ _ _ _ _).mono ?_; rintro e w' ⟨rfl, rfl⟩)
    | go_in)
  go_ret
  exact ⟨rfl, by repeat' (first | exact Below.refl _ _ | refine Below.alloc ?_ (by first | exact Nat.le_refl _ | (simp only [World.size_alloc]; omega)) _)⟩
/-- Is it right? -/
def isB (x0 x1 x2 x3 x4 x5 x6 x7 x8 x9 x10 : Int) : Bool := betw x0 1 1099511627776 && betw x1 1 4 && betw x4 1 2 && betw x5 0 3 && betw x6 0 999 && betw x7 0 99999 && betw x8 1 999 && decide (x7 + x8 ≤ 100000) && betw x10 0 9 && (if x1 = 3 then zonesB x2 x3 else wayB x2 x3) && usesB x1 x9
theorem is_of (x0 x1 x2 x3 x4 x5 x6 x7 x8 x9 x10 : Int) (w : World) {b : Bool} (h : isB x0 x1 x2 x3 x4 x5 x6 x7 x8 x9 x10 = b) (hc : Calls Try.prog 30 #[.agg #[.int .i64 x0, .int .i64 x1, .int .i64 x2, .int .i64 x3, .int .i64 x4, .int .i64 x5, .int .i64 x6, .int .i64 x7, .int .i64 x8, .int .i64 x9, .int .i64 x10]] w fun e w' => e = .returned (.bool b) ∧ Below w.heap.size w w') : Calls Try.prog 30 #[.agg #[.int .i64 x0, .int .i64 x1, .int .i64 x2, .int .i64 x3, .int .i64 x4, .int .i64 x5, .int .i64 x6, .int .i64 x7, .int .i64 x8, .int .i64 x9, .int .i64 x10]] w fun e w' => e = .returned (.bool (isB x0 x1 x2 x3 x4 x5 x6 x7 x8 x9 x10)) ∧ Below w.heap.size w w' := h ▸ hc
theorem is_any (x0 x1 x2 x3 x4 x5 x6 x7 x8 x9 x10 : Int) (w : World) : Calls Try.prog 30 #[.agg #[.int .i64 x0, .int .i64 x1, .int .i64 x2, .int .i64 x3, .int .i64 x4, .int .i64 x5, .int .i64 x6, .int .i64 x7, .int .i64 x8, .int .i64 x9, .int .i64 x10]] w fun e w' => e = .returned (.bool (isB x0 x1 x2 x3 x4 x5 x6 x7 x8 x9 x10)) ∧ Below w.heap.size w w' := by
  cases h0 : betw x0 1 1099511627776
  · exact is_of x0 x1 x2 x3 x4 x5 x6 x7 x8 x9 x10 w (by unfold isB; rw [h0]; rfl) (is_no0 x0 x1 x2 x3 x4 x5 x6 x7 x8 x9 x10 w h0)
  cases h1 : betw x1 1 4
  · exact is_of x0 x1 x2 x3 x4 x5 x6 x7 x8 x9 x10 w (by unfold isB; rw [h0, h1]; rfl) (is_no1 x0 x1 x2 x3 x4 x5 x6 x7 x8 x9 x10 w h0 h1)
  cases h2 : betw x4 1 2
  · exact is_of x0 x1 x2 x3 x4 x5 x6 x7 x8 x9 x10 w (by unfold isB; rw [h0, h1, h2]; rfl) (is_no2 x0 x1 x2 x3 x4 x5 x6 x7 x8 x9 x10 w h0 h1 h2)
  cases h3 : betw x5 0 3
  · exact is_of x0 x1 x2 x3 x4 x5 x6 x7 x8 x9 x10 w (by unfold isB; rw [h0, h1, h2, h3]; rfl) (is_no3 x0 x1 x2 x3 x4 x5 x6 x7 x8 x9 x10 w h0 h1 h2 h3)
  cases h4 : betw x6 0 999
  · exact is_of x0 x1 x2 x3 x4 x5 x6 x7 x8 x9 x10 w (by unfold isB; rw [h0, h1, h2, h3, h4]; rfl) (is_no4 x0 x1 x2 x3 x4 x5 x6 x7 x8 x9 x10 w h0 h1 h2 h3 h4)
  cases h5 : betw x7 0 99999
  · exact is_of x0 x1 x2 x3 x4 x5 x6 x7 x8 x9 x10 w (by unfold isB; rw [h0, h1, h2, h3, h4, h5]; rfl) (is_no5 x0 x1 x2 x3 x4 x5 x6 x7 x8 x9 x10 w h0 h1 h2 h3 h4 h5)
  cases h6 : betw x8 1 999
  · exact is_of x0 x1 x2 x3 x4 x5 x6 x7 x8 x9 x10 w (by unfold isB; rw [h0, h1, h2, h3, h4, h5, h6]; rfl) (is_no6 x0 x1 x2 x3 x4 x5 x6 x7 x8 x9 x10 w h0 h1 h2 h3 h4 h5 h6)
  by_cases h7' : 100000 < x7 + x8
  · have h7 := h7'
    exact is_of x0 x1 x2 x3 x4 x5 x6 x7 x8 x9 x10 w (by unfold isB; rw [h0, h1, h2, h3, h4, h5, h6, decide_eq_false (by omega)]; rfl) (is_no7 x0 x1 x2 x3 x4 x5 x6 x7 x8 x9 x10 w h0 h1 h2 h3 h4 h5 h6 h7)
  have h7 : x7 + x8 ≤ 100000 := by omega
  cases h8 : betw x10 0 9
  · exact is_of x0 x1 x2 x3 x4 x5 x6 x7 x8 x9 x10 w (by unfold isB; rw [h0, h1, h2, h3, h4, h5, h6, decide_eq_true h7, h8]; rfl) (is_no8 x0 x1 x2 x3 x4 x5 x6 x7 x8 x9 x10 w h0 h1 h2 h3 h4 h5 h6 h7 h8)
  by_cases hk : x1 = 3
  · subst hk
    cases hz : zonesB x2 x3
    · exact is_of _ _ _ _ _ _ _ _ _ _ _ w (by unfold isB; rw [h0, h1, h2, h3, h4, h5, h6, decide_eq_true h7, h8, if_pos rfl, hz]; rfl) (is_season_no x0 x2 x3 x4 x5 x6 x7 x8 x9 x10 w h0 h2 h3 h4 h5 h6 h7 h8 hz)
    · exact is_of _ _ _ _ _ _ _ _ _ _ _ w (by unfold isB; rw [h0, h1, h2, h3, h4, h5, h6, decide_eq_true h7, h8, if_pos rfl, hz]; rfl) (is_season_yes x0 x2 x3 x4 x5 x6 x7 x8 x9 x10 w h0 h2 h3 h4 h5 h6 h7 h8 hz)
  · cases hz : wayB x2 x3
    · exact is_of _ _ _ _ _ _ _ _ _ _ _ w (by unfold isB; rw [h0, h1, h2, h3, h4, h5, h6, decide_eq_true h7, h8, if_neg hk, hz]; rfl) (is_other_no x0 x1 x2 x3 x4 x5 x6 x7 x8 x9 x10 w h0 h1 h2 h3 h4 h5 h6 h7 h8 hk hz)
    · exact is_of _ _ _ _ _ _ _ _ _ _ _ w (by unfold isB; rw [h0, h1, h2, h3, h4, h5, h6, decide_eq_true h7, h8, if_neg hk, hz]; rfl) (is_other_yes x0 x1 x2 x3 x4 x5 x6 x7 x8 x9 x10 w h0 h1 h2 h3 h4 h5 h6 h7 h8 hk hz)
end Go.Proofs.Ytdiijjdhofaodaa.G
end
section
namespace Go.Proofs.Ytdiijjdhofaodaa.G
open Go Go.RowKit Go.Maps Go.Proofs.YtdiijjdhofaodaaW.PrintWords Go.Proofs.YtdiijjdhofaodaaW.PrintLast Go.Proofs.YtdiijjdhofaodaaW.PrintMore
def zoneR (s : Int) : Int × Int := if 0 ≤ s ∧ s < 40 then (zv s, 0) else (0, 1)
theorem at_int {c : Int} {v : Int} (h : (DataW.lit (H := Unit) (.int .i64 v)) = .lit (.int .i64 c)) : c = v := by injection h with h; injection h with _ h; exact h.symm
theorem zone_in (s : Int) (w : World) (h0 : 0 ≤ s) (h1 : s < 40) :
    Calls Try.prog 50 #[.int .i64 s] w fun e w' => e = .returned (.tuple #[.int .i64 (zv s), .int .i64 0]) ∧ Below w.heap.size w w' := by
  go_enter Try.func50, Try.ntmps50
  go_wp2_with (first
    | (go_at_call 66; refine (table_any _).mono ?_; rintro e w1 ⟨rfl, ⟨D, hown, hM, ha, hh⟩, hb⟩; have hx := hh s; rw [decide_eq_true (by omega)] at hx; have HA := Lib.hid ha; clear ha hh)
    | (at_lookup; refine wpList_lookup_own_ok_int _ rfl _ _ 74 rfl 3 3 .i64 law3 Try.underlying74 Try.underlying3 (zero3 _) w.heap.size 40 D rfl hown _ _ rfl (keyOf_int_mk Try.underlying3 (wf_of (by omega) (by omega))) ?_; intro c hat hwc; obtain rfl : c = zv s := at_int ((((HA.out s _).trans (if_pos (by omega))).symm).trans hat)))
  go_ret2
  exact ⟨rfl, hb⟩
theorem zone_out (s : Int) (w : World) (hw : -9223372036854775808 ≤ s ∧ s ≤ 9223372036854775807) (h0 : ¬ (0 ≤ s ∧ s < 40)) :
    Calls Try.prog 50 #[.int .i64 s] w fun e w' => e = .returned (.tuple #[.int .i64 0, .int .i64 1]) ∧ Below w.heap.size w w' := by
  have H0 := Lib.hid h0
  have HW := Lib.hid hw
  clear h0 hw
  go_enter Try.func50, Try.ntmps50
  go_wp2_with (first
    | (go_at_call 66; refine (table_any _).mono ?_; rintro e w1 ⟨rfl, ⟨D, hown, hM, ha, hh⟩, hb⟩; have hx : Maps.has D (.int .i64 s) = false := (hh s).trans (decide_eq_false (by have := H0.out; omega)); have HA := Lib.hid ha; clear ha hh)
    | (at_lookup; refine wpList_lookup_own_ok_int _ rfl _ _ 74 rfl 3 3 .i64 law3 Try.underlying74 Try.underlying3 (zero3 _) w.heap.size 40 D rfl hown _ _ rfl (keyOf_int_mk Try.underlying3 (wf_of HW.out.1 HW.out.2)) ?_; intro c hat hwc; clear hat hwc))
  go_ret2
  exact ⟨rfl, hb⟩
theorem zone_any (s : Int) (w : World) (hw : -9223372036854775808 ≤ s ∧ s ≤ 9223372036854775807) :
    Calls Try.prog 50 #[.int .i64 s] w fun e w' => e = .returned (.tuple #[.int .i64 (zoneR s).1, .int .i64 (zoneR s).2]) ∧ Below w.heap.size w w' := by
  unfold zoneR
  by_cases h : 0 ≤ s ∧ s < 40
  · rw [if_pos h]; exact zone_in s w h.1 h.2
  · rw [if_neg h]; exact zone_out s w hw h
end Go.Proofs.Ytdiijjdhofaodaa.G
end
section
namespace Go.Proofs.Ytdiijjdhofaodaa.G
open Go Go.RowKit Go.Shelf Go.Proofs.YtdiijjdhofaodaaW.PrintWords Go.Proofs.YtdiijjdhofaodaaW.PrintLast Go.Proofs.YtdiijjdhofaodaaW.PrintMore

/-! ### the map of zones, in whatever world it lies -/
/-- Block b is the map of all zones. -/
def TabAt (w : World) (b : Nat) : Prop := TabOk w b 40
theorem tab_block {w w' : World} {b : Nat} (h : TabAt w b) (hb : ∀ o, w.heap[b]? = some o → w'.heap[b]? = w.heap[b]?) : TabAt w' b := by
  obtain ⟨D, ⟨es, clock, hes, F, hn, hD⟩, hM, ha, hh⟩ := h
  exact ⟨D, ⟨es, clock, (hb _ hes).trans hes, F, hn, hD⟩, hM, ha, hh⟩
theorem TabAt.lt {w : World} {b : Nat} (h : TabAt w b) : b < w.heap.size := by
  obtain ⟨D, hown, _⟩ := h
  exact hown.lt
theorem tabAt_drew {w : World} {b : Nat} (h : TabAt w b) : TabAt w.drew b := h
theorem tabAt_drewN {w : World} {b : Nat} (h : TabAt w b) (n : Nat) : TabAt (w.drewN n) b := h
theorem tabAt_alloc {w : World} {b : Nat} (h : TabAt w b) (o : Obj) : TabAt (w.alloc o) b := tab_block h fun _ _ => Below.heap_alloc w o b h.lt
theorem tabAt_setCell {w : World} {b : Nat} (h : TabAt w b) (p : Addr) (v : Value) : TabAt (w.setCell p v) b := by
  obtain ⟨D, ⟨es, clock, hes, F, hn, hD⟩, hM, ha, hh⟩ := h
  refine ⟨D, ⟨es, clock, ?_, F, hn, hD⟩, hM, ha, hh⟩
  by_cases hp : b = p.block
  · subst hp
    simp [World.setCell, Array.getElem?_modify, hes]
  · exact (Below.heap_setCell w p v b hp).trans hes
theorem TabAt.below {w w' : World} {b B : Nat} (h : TabAt w b) (hb : Below B w w') (hB : b < B) : TabAt w' b := tab_block h fun _ _ => hb.block b hB
theorem tab_lookup {w : World} {b : Nat} {s : Int} (h : TabAt w b) (h0 : 0 ≤ s) (h1 : s < 40) : (Instr.lookup 74 (.map (some b)) (.int .i64 s) false).run Try.prog w = .ok (.int .i64 (zv s)) w := by
  obtain ⟨D, hown, hM, ha, hh⟩ := h
  obtain ⟨c, hrun, hat, hwc⟩ := hown.lookup_int law3 Try.underlying74 Try.underlying3 (zero3 _) (Maps.keyOf_int_mk Try.underlying3 (wf_of (n := s) (by omega) (by omega)))
  have : (DataW.lit (H := Unit) (.int .i64 (zv s))) = .lit (.int .i64 c) := ((ha s _).trans (if_pos (by omega))).symm.trans hat
  injection this with this
  injection this with _ this
  rw [hrun, this]

theorem max2_mx (k k' : IntKind) (x y : Int) : Builtin.max2 (.int k x) (.int k' y) = pure (.int k (mx x y)) := max2_int k k' x y
theorem min2_mn (k k' : IntKind) (x y : Int) : Builtin.min2 (.int k x) (.int k' y) = pure (.int k (mn x y)) := min2_int k k' x y
theorem mn_val (a b : Int) : mn a b = if b < a then b else a := rfl

attribute [local go_sem] Oper.semAt_some
attribute [local go_sem] max2_mx min2_mn max_two min_two

/-- What a round must keep for the iterator: its two boxes. -/
def Kab (Ba : Nat) (W W' : World) : Prop := W'.heap[Ba]? = W.heap[Ba]? ∧ W'.heap[Ba + 1]? = W.heap[Ba + 1]?
theorem Kab.tr {Ba : Nat} {A B C : World} (h : Kab Ba A B) (k : Kab Ba B C) : Kab Ba A C := ⟨k.1.trans h.1, k.2.trans h.2⟩
theorem kab_put {Ba : Nat} {w : World} (hB : Ba + 1 < w.heap.size) (W : World) (l : Nat) (o o' : Obj) (hl : w.heap.size ≤ l) (_ : W.heap[l]? = some o) (_ : o.isCells = false) (_ : o.isWalk = false) : Kab Ba W (W.putObj l o') :=
  ⟨World.putObj_heap_other (by omega), World.putObj_heap_other (by omega)⟩
/-- How many stations are on the way. -/
def many (a b : Int) : Nat := (mx a b - mn a b + 1).toNat
/-- The j-th of them. -/
def stn (a b : Int) (j : Nat) : Int := (mn a b + (j : Int)) % 40
theorem stn_range (a b : Int) (j : Nat) : 0 ≤ stn a b j ∧ stn a b j < 40 := by unfold stn; omega
theorem ends_range {a b : Int} (ha0 : 0 ≤ a) (ha1 : a < 40) (hb0 : 0 ≤ b) (hb1 : b < 40) : 0 ≤ mn a b ∧ mn a b ≤ mx a b ∧ mx a b < 40 := by
  rw [mn_val, mx_val]
  split <;> split <;> omega
set_option maxRecDepth 100000 in
set_option maxHeartbeats 1000000 in
theorem way1_in (F : Fence) (n : Nat) (h39 : F.fn 75) (hro : F.round = none) (hn : 1 ≤ n) (l Ba : Nat) (a b : Int) (ha0 : 0 ≤ a) (ha1 : a < 40) (hb0 : 0 ≤ b) (hb1 : b < 40)
    (J Jx : List Nat → World → Prop)
    (hY : ∀ pre x W, J pre W → pre.length < many a b → YieldAt F (n - 1) Try.prog l #[.int .i64 (stn a b x)] W fun e W' =>
      (e = .returned (.bool true) ∧ J (pre ++ [x]) W' ∧ Kab Ba W W') ∨ (e = .returned (.bool false) ∧ Jx (pre ++ [x]) W'))
    (W : World) (hA : Boxed W Ba 3 (.int .i64 a)) (hB : Boxed W (Ba + 1) 3 (.int .i64 b)) (h0 : J [] W) :
    CallsIn F n Try.prog 75 #[.func (.yield l) #[] #[], .pointer (some ⟨Ba, 0, none⟩), .pointer (some ⟨Ba + 1, 0, none⟩)] W fun e W' => (∃ v, e = .returned v) ∧
      ((∃ ys, ys = List.range (many a b) ∧ J ys W') ∨ (∃ pre, True ∧ Jx pre W')) := by
  obtain ⟨e0, e1, e2⟩ := ends_range ha0 ha1 hb0 hb1
  have hM0 : many a b = (mx a b - mn a b + 1).toNat := rfl
  have HM := Lib.hid hM0
  clear hM0
  refine callsIn_of_wp Try.func75 rfl h39 ?_ hro
  simp only [Try.ntmps75, List.size_toArray, List.length_cons, List.length_nil, Nat.reduceAdd, Nat.reduceSub, Array.replicate_succ, Array.replicate_zero, List.push_toArray, List.append_toArray, List.nil_append, List.cons_append]
  have hca := hA.cell
  have hcb := hB.cell
  gi_wp2
  gi_loopw [4] (fun s wr => ∃ k : Nat, k ≤ many a b ∧ s = .int .i64 (mn a b + (k : Int)) ∧ J (List.range k) wr ∧ Kab Ba W wr) (fun s _ => (mx a b + 1 - intOf s).toNat)
  case atStart => exact ⟨0, by omega, by go_num, h0, rfl, rfl⟩
  case round =>
    obtain ⟨k, hk, rfl, hJ, hK⟩ := hrel
    have hA' : Boxed wr Ba 3 (.int .i64 a) := hK.1.trans hA
    have hB' : Boxed wr (Ba + 1) 3 (.int .i64 b) := hK.2.trans hB
    clear hca hcb
    have hca := hA'.cell
    have hcb := hB'.cell
    by_cases hlt : k < many a b
    · have hle : mn a b + (k : Int) ≤ mx a b := by have := HM.out; omega
      obtain ⟨fn, tmps, assign, body, hy, hR⟩ := hY (List.range k) k wr hJ (by simpa using hlt)
      rw [show stn a b k = mn a b + (k : Int) by unfold stn; omega] at hy
      gi_wp2
      refine hR.mono ?_
      rintro e W3 (⟨rfl, hJ3, hk3⟩ | ⟨rfl, hJx3⟩)
      · gi_wp2
        go_roundw
        case rel => exact ⟨k + 1, by omega, by go_num, by rw [List.range_succ]; exact hJ3, hK.tr hk3⟩
        case measure => simp [intOf]; omega
      · gi_wp2
        refine bodyPost_ret (results_none rfl _ _ _) rfl ?_
        exact ⟨⟨_, rfl⟩, .inr ⟨_, trivial, hJx3⟩⟩
    · have hgt : mx a b < mn a b + (k : Int) := by have := HM.out; omega
      have hkm : k = many a b := by omega
      have HK := Lib.hid hkm
      clear hkm hlt hk
      gi_wp2
      go_end0
      exact ⟨⟨_, rfl⟩, .inl ⟨_, rfl, by rw [← HK.out]; exact hJ⟩⟩
set_option maxHeartbeats 1000000 in
theorem way_in (F : Fence) (n : Nat) (h36 : F.fn 67) (hro : F.round = none) (a b : Int) (w : World) :
    CallsIn F n Try.prog 67 #[.int .i64 a, .int .i64 b] w fun e w' => e = .returned (.func (.func 75) #[] #[.pointer (some ⟨w.heap.size, 0, none⟩), .pointer (some ⟨w.heap.size + 1, 0, none⟩)]) ∧
      w' = (w.alloc (.cells #[.int .i64 a] 3)).alloc (.cells #[.int .i64 b] 3) := by
  refine callsIn_of_wp Try.func67 rfl h36 ?_ hro
  simp only [Try.ntmps67, List.size_toArray, List.length_cons, List.length_nil, Nat.reduceAdd, Nat.reduceSub, Array.replicate_succ, Array.replicate_zero, List.push_toArray, List.append_toArray, List.nil_append, List.cons_append]
  gi_wp2
  go_ret
  exact ⟨rfl, rfl⟩
theorem way_stops (F : Fence) (n : Nat) (h39 : F.fn 75) (hro : F.round = none) (hn : 1 ≤ n) (Ba : Nat) (a b : Int) (ha0 : 0 ≤ a) (ha1 : a < 40) (hb0 : 0 ≤ b) (hb1 : b < 40) (w : World)
    (hA : Boxed w Ba 3 (.int .i64 a)) (hB : Boxed w (Ba + 1) 3 (.int .i64 b)) :
    SeqStopsK F n Try.prog 75 #[.pointer (some ⟨Ba, 0, none⟩), .pointer (some ⟨Ba + 1, 0, none⟩)] (fun j : Nat => #[Value.int .i64 (stn a b j)]) (Kab Ba) (fun ys => ys = List.range (many a b)) (fun _ => True) (many a b) w :=
  fun l J Jx W hW _ _ hY h0 => way1_in F n h39 hro hn l Ba a b ha0 ha1 hb0 hb1 J Jx hY W ((hW.block Ba hA.lt).trans hA) ((hW.block (Ba + 1) hB.lt).trans hB) h0
end Go.Proofs.Ytdiijjdhofaodaa.G
end
section
namespace Go.Proofs.Ytdiijjdhofaodaa.G
open Go Go.RowKit Go.Proofs.YtdiijjdhofaodaaW.PrintWords Go.Proofs.YtdiijjdhofaodaaW.PrintLast Go.Proofs.YtdiijjdhofaodaaW.PrintMore
/-- Block b holds these cells. -/
def Blk (W : World) (b : Nat) (cs : Array Value) (t : TypeId) : Prop := W.heap[b]? = some (.cells cs t (0, 0))
theorem Blk.lt {W : World} {b : Nat} {cs : Array Value} {t : TypeId} (h : Blk W b cs t) : b < W.heap.size := (Array.getElem?_eq_some_iff.1 h).1
theorem Blk.new (W : World) (cs : Array Value) (t : TypeId) : Blk (W.alloc (.cells cs t)) W.heap.size cs t := World.alloc_heap_new W _
theorem Blk.alloc {W : World} {b : Nat} {cs : Array Value} {t : TypeId} (h : Blk W b cs t) (o : Obj) : Blk (W.alloc o) b cs t := (Below.heap_alloc W o b h.lt).trans h
theorem Blk.below {W W' : World} {b B : Nat} {cs : Array Value} {t : TypeId} (h : Blk W b cs t) (hb : Below B W W') (hB : b < B) : Blk W' b cs t := (hb.block b hB).trans h
theorem Blk.cell {W : World} {b : Nat} {cs : Array Value} {t : TypeId} (h : Blk W b cs t) (i : Nat) (v : Value) (hv : cs[i]? = some v) : W.cell? ⟨b, i, none⟩ = some v := by
  simp [World.cell?, show W.heap[b]? = _ from h, hv]
def tkA (x0 x1 x2 x3 x4 x5 x6 x7 x8 x9 x10 : Int) : Array Value := #[.int .i64 x0, .int .i64 x1, .int .i64 x2, .int .i64 x3, .int .i64 x4, .int .i64 x5, .int .i64 x6, .int .i64 x7, .int .i64 x8, .int .i64 x9, .int .i64 x10]
theorem Blk.all {W : World} {b : Nat} {x0 x1 x2 x3 x4 x5 x6 x7 x8 x9 x10 : Int} {t : TypeId} (h : Blk W b (tkA x0 x1 x2 x3 x4 x5 x6 x7 x8 x9 x10) t) :
    W.cell? ⟨b, 0, none⟩ = some (.int .i64 x0) ∧ W.cell? ⟨b, 1, none⟩ = some (.int .i64 x1) ∧ W.cell? ⟨b, 2, none⟩ = some (.int .i64 x2) ∧ W.cell? ⟨b, 3, none⟩ = some (.int .i64 x3) ∧ W.cell? ⟨b, 4, none⟩ = some (.int .i64 x4) ∧ W.cell? ⟨b, 5, none⟩ = some (.int .i64 x5) ∧ W.cell? ⟨b, 6, none⟩ = some (.int .i64 x6) ∧ W.cell? ⟨b, 7, none⟩ = some (.int .i64 x7) ∧ W.cell? ⟨b, 8, none⟩ = some (.int .i64 x8) ∧ W.cell? ⟨b, 9, none⟩ = some (.int .i64 x9) ∧ W.cell? ⟨b, 10, none⟩ = some (.int .i64 x10) :=
  ⟨h.cell 0 _ rfl, h.cell 1 _ rfl, h.cell 2 _ rfl, h.cell 3 _ rfl, h.cell 4 _ rfl, h.cell 5 _ rfl, h.cell 6 _ rfl, h.cell 7 _ rfl, h.cell 8 _ rfl, h.cell 9 _ rfl, h.cell 10 _ rfl⟩
/-- What lies in the world behind the look-up of the zone. -/
theorem cov_facts {w w1 : World} {x0 x1 x2 x3 x4 x5 x6 x7 x8 x9 x10 s : Int} (z : Int) (hb : Below ((w.alloc (.cells (tkA x0 x1 x2 x3 x4 x5 x6 x7 x8 x9 x10) 23)).alloc (.cells #[.int .i64 s] 3)).heap.size ((w.alloc (.cells (tkA x0 x1 x2 x3 x4 x5 x6 x7 x8 x9 x10) 23)).alloc (.cells #[.int .i64 s] 3)) w1) :
    Blk (w1.alloc (.cells #[.int .i64 z] 3)) w.heap.size (tkA x0 x1 x2 x3 x4 x5 x6 x7 x8 x9 x10) 23 ∧ Blk (w1.alloc (.cells #[.int .i64 z] 3)) (w.heap.size + 1) #[.int .i64 s] 3 ∧ Blk (w1.alloc (.cells #[.int .i64 z] 3)) w1.heap.size #[.int .i64 z] 3 ∧ Below w.heap.size w (w1.alloc (.cells #[.int .i64 z] 3)) := by
  have hz := hb.size
  simp only [World.size_alloc] at hz
  refine ⟨Blk.alloc (Blk.below ((Blk.new w _ _).alloc _) hb (by simp only [World.size_alloc]; omega)) _, Blk.alloc (Blk.below (b := w.heap.size + 1) (by simpa using Blk.new (w.alloc (.cells (tkA x0 x1 x2 x3 x4 x5 x6 x7 x8 x9 x10) 23)) #[.int .i64 s] 3) hb (by simp only [World.size_alloc]; omega)) _, Blk.new _ _ _, ?_⟩
  have h0 : Below w.heap.size w ((w.alloc (.cells (tkA x0 x1 x2 x3 x4 x5 x6 x7 x8 x9 x10) 23)).alloc (.cells #[.int .i64 s] 3)) := ((Below.refl _ w).alloc (Nat.le_refl _) _).alloc (by simp) _
  exact (h0.trans (hb.mono (by simp only [World.size_alloc]; omega))).alloc (by omega) _
set_option maxRecDepth 100000 in
set_option maxHeartbeats 1000000 in
theorem covers_season (x0 x2 x3 x4 x5 x6 x7 x8 x9 x10 s : Int) (w : World) (s0 : 0 ≤ s) (s1 : s < 40) (hIs : isB x0 3 x2 x3 x4 x5 x6 x7 x8 x9 x10 = true) :
    Calls Try.prog 27 #[.agg #[.int .i64 x0, .int .i64 3, .int .i64 x2, .int .i64 x3, .int .i64 x4, .int .i64 x5, .int .i64 x6, .int .i64 x7, .int .i64 x8, .int .i64 x9, .int .i64 x10], .int .i64 s] w fun e w' => e = .returned (.tuple #[.bool (betw (zv s) x2 x3), .int .i64 0]) ∧ Below w.heap.size w w' := by
  go_enter Try.func27, Try.ntmps27
  go_wp2_with (first
    | (go_at_call 50; refine (zone_in _ _ s0 s1).mono ?_; rintro e w1 ⟨rfl, hb⟩; obtain ⟨bt, bs, bz, HB⟩ := cov_facts (zv s) hb; obtain ⟨q0, q1, q2, q3, q4, q5, q6, q7, q8, q9, q10⟩ := bt.all; clear hb)
    | (go_at_call 30; refine (is_any _ _ _ _ _ _ _ _ _ _ _ _).mono ?_; rintro e w2 ⟨rfl, hb2⟩; rw [hIs]; clear q0 q1 q2 q3 q4 q5 q6 q7 q8 q9 q10; have ct := bt.below hb2 bt.lt; have cs := bs.below hb2 bs.lt; have cz := bz.below hb2 bz.lt; have HC := HB.trans (hb2.mono HB.size); obtain ⟨q0, q1, q2, q3, q4, q5, q6, q7, q8, q9, q10⟩ := ct.all; have r2 : ∀ o, (w2.alloc o).cell? ⟨w.heap.size, 2, none⟩ = some (.int .i64 x2) := fun o => (ct.alloc o).cell 2 _ rfl; have r3 : ∀ o, (w2.alloc o).cell? ⟨w.heap.size, 3, none⟩ = some (.int .i64 x3) := fun o => (ct.alloc o).cell 3 _ rfl; have rz : ∀ o, (w2.alloc o).cell? ⟨w1.heap.size, 0, none⟩ = some (.int .i64 (zv s)) := fun o => (cz.alloc o).cell 0 _ rfl)
    | (go_at_call 53; refine (within_any _ _ _ _).mono ?_; rintro e w' ⟨rfl, rfl⟩)
    | go_in)
  go_ret2
  exact ⟨rfl, HC.alloc HC.size _⟩
attribute [local go_sem] max2_mx min2_mn max_two min_two
theorem lis_eq {s : Int} {b : Bool} (h : lisB s = b) (w : World) : Calls Try.prog 43 #[.int .i64 s] w fun e w' => e = .returned (.bool b) ∧ w = w' := h ▸ lis_any s w
theorem between_in (a b s : Int) (w : World) (ha : lisB a = true) (hb : lisB b = true) (hs : lisB s = true) :
    Calls Try.prog 46 #[.int .i64 a, .int .i64 b, .int .i64 s] w fun e w' => e = .returned (.tuple #[.bool (decide (mn a b ≤ s ∧ s ≤ mx a b)), .int .i64 0]) ∧ w = w' := by
  by_cases h : mn a b ≤ s
  · rw [show decide (mn a b ≤ s ∧ s ≤ mx a b) = decide (s ≤ mx a b) from decide_eq_decide.2 (by omega)]
    go_enter Try.func46, Try.ntmps46
    go_wp2_with (go_at_call 43; refine (lis_eq (by assumption) _).mono ?_; rintro e w' ⟨rfl, rfl⟩)
    go_ret2
    exact ⟨rfl, rfl⟩
  · rw [show decide (mn a b ≤ s ∧ s ≤ mx a b) = false from decide_eq_false (by omega)]
    go_enter Try.func46, Try.ntmps46
    go_wp2_with (go_at_call 43; refine (lis_eq (by assumption) _).mono ?_; rintro e w' ⟨rfl, rfl⟩)
    go_ret2
    exact ⟨rfl, rfl⟩
set_option maxRecDepth 100000 in
set_option maxHeartbeats 1000000 in
theorem covers_other_yes (x0 x1 x2 x3 x4 x5 x6 x7 x8 x9 x10 s : Int) (w : World) (s0 : 0 ≤ s) (s1 : s < 40) (hIs : isB x0 x1 x2 x3 x4 x5 x6 x7 x8 x9 x10 = true) (hk : x1 ≠ 3) (l2 : lisB x2 = true) (l3 : lisB x3 = true) (hd : decide (mn x2 x3 ≤ s ∧ s ≤ mx x2 x3) = true) :
    Calls Try.prog 27 #[.agg #[.int .i64 x0, .int .i64 x1, .int .i64 x2, .int .i64 x3, .int .i64 x4, .int .i64 x5, .int .i64 x6, .int .i64 x7, .int .i64 x8, .int .i64 x9, .int .i64 x10], .int .i64 s] w fun e w' => e = .returned (.tuple #[.bool true, .int .i64 0]) ∧ Below w.heap.size w w' := by
  have e3 : (x1 == 3) = false := beq_eq_false_iff_ne.2 hk
  have ls : lisB s = true := decide_eq_true ⟨s0, s1⟩
  go_enter Try.func27, Try.ntmps27
  go_wp2_with (first
    | (go_at_call 50; refine (zone_in _ _ s0 s1).mono ?_; rintro e w1 ⟨rfl, hb⟩; obtain ⟨bt, bs, bz, HB⟩ := cov_facts (zv s) hb; obtain ⟨q0, q1, q2, q3, q4, q5, q6, q7, q8, q9, q10⟩ := bt.all; clear hb)
    | (go_at_call 30; refine (is_any _ _ _ _ _ _ _ _ _ _ _ _).mono ?_; rintro e w2 ⟨rfl, hb2⟩; rw [hIs]; clear q0 q1 q2 q3 q4 q5 q6 q7 q8 q9 q10; have ct := bt.below hb2 bt.lt; have cs := bs.below hb2 bs.lt; have HC := HB.trans (hb2.mono HB.size); obtain ⟨q0, q1, q2, q3, q4, q5, q6, q7, q8, q9, q10⟩ := ct.all; have r2 : ∀ o, (w2.alloc o).cell? ⟨w.heap.size, 2, none⟩ = some (.int .i64 x2) := fun o => (ct.alloc o).cell 2 _ rfl; have r3 : ∀ o, (w2.alloc o).cell? ⟨w.heap.size, 3, none⟩ = some (.int .i64 x3) := fun o => (ct.alloc o).cell 3 _ rfl; have rs : ∀ o, (w2.alloc o).cell? ⟨w.heap.size + 1, 0, none⟩ = some (.int .i64 s) := fun o => (cs.alloc o).cell 0 _ rfl)
    | (go_at_call 46; refine (between_in _ _ _ _ l2 l3 ls).mono ?_; rintro e w' ⟨rfl, rfl⟩; (try rw [hd]))
    | go_in)
  go_ret2
  exact ⟨rfl, HC.alloc HC.size _⟩
set_option maxRecDepth 100000 in
set_option maxHeartbeats 1000000 in
theorem covers_other_no (x0 x1 x2 x3 x4 x5 x6 x7 x8 x9 x10 s : Int) (w : World) (s0 : 0 ≤ s) (s1 : s < 40) (hIs : isB x0 x1 x2 x3 x4 x5 x6 x7 x8 x9 x10 = true) (hk : x1 ≠ 3) (l2 : lisB x2 = true) (l3 : lisB x3 = true) (hd : decide (mn x2 x3 ≤ s ∧ s ≤ mx x2 x3) = false) :
    Calls Try.prog 27 #[.agg #[.int .i64 x0, .int .i64 x1, .int .i64 x2, .int .i64 x3, .int .i64 x4, .int .i64 x5, .int .i64 x6, .int .i64 x7, .int .i64 x8, .int .i64 x9, .int .i64 x10], .int .i64 s] w fun e w' => e = .returned (.tuple #[.bool false, .int .i64 0]) ∧ Below w.heap.size w w' := by
  have e3 : (x1 == 3) = false := beq_eq_false_iff_ne.2 hk
  have ls : lisB s = true := decide_eq_true ⟨s0, s1⟩
  go_enter Try.func27, Try.ntmps27
  go_wp2_with (first
    | (go_at_call 50; refine (zone_in _ _ s0 s1).mono ?_; rintro e w1 ⟨rfl, hb⟩; obtain ⟨bt, bs, bz, HB⟩ := cov_facts (zv s) hb; obtain ⟨q0, q1, q2, q3, q4, q5, q6, q7, q8, q9, q10⟩ := bt.all; clear hb)
    | (go_at_call 30; refine (is_any _ _ _ _ _ _ _ _ _ _ _ _).mono ?_; rintro e w2 ⟨rfl, hb2⟩; rw [hIs]; clear q0 q1 q2 q3 q4 q5 q6 q7 q8 q9 q10; have ct := bt.below hb2 bt.lt; have cs := bs.below hb2 bs.lt; have HC := HB.trans (hb2.mono HB.size); obtain ⟨q0, q1, q2, q3, q4, q5, q6, q7, q8, q9, q10⟩ := ct.all; have r2 : ∀ o, (w2.alloc o).cell? ⟨w.heap.size, 2, none⟩ = some (.int .i64 x2) := fun o => (ct.alloc o).cell 2 _ rfl; have r3 : ∀ o, (w2.alloc o).cell? ⟨w.heap.size, 3, none⟩ = some (.int .i64 x3) := fun o => (ct.alloc o).cell 3 _ rfl; have rs : ∀ o, (w2.alloc o).cell? ⟨w.heap.size + 1, 0, none⟩ = some (.int .i64 s) := fun o => (cs.alloc o).cell 0 _ rfl)
    | (go_at_call 46; refine (between_in _ _ _ _ l2 l3 ls).mono ?_; rintro e w' ⟨rfl, rfl⟩; (try rw [hd]))
    | go_in)
  go_ret2
  exact ⟨rfl, HC.alloc HC.size _⟩
set_option maxRecDepth 100000 in
set_option maxHeartbeats 1000000 in
theorem covers_off (x0 x1 x2 x3 x4 x5 x6 x7 x8 x9 x10 s : Int) (w : World) (hw : -9223372036854775808 ≤ s ∧ s ≤ 9223372036854775807) (hns : ¬ (0 ≤ s ∧ s < 40)) (hIs : isB x0 x1 x2 x3 x4 x5 x6 x7 x8 x9 x10 = true) :
    Calls Try.prog 27 #[.agg #[.int .i64 x0, .int .i64 x1, .int .i64 x2, .int .i64 x3, .int .i64 x4, .int .i64 x5, .int .i64 x6, .int .i64 x7, .int .i64 x8, .int .i64 x9, .int .i64 x10], .int .i64 s] w fun e w' => e = .returned (.tuple #[.bool false, .int .i64 1]) ∧ Below w.heap.size w w' := by
  go_enter Try.func27, Try.ntmps27
  go_wp2_with (first
    | (go_at_call 50; refine (zone_out _ _ hw hns).mono ?_; rintro e w1 ⟨rfl, hb⟩; obtain ⟨bt, bs, bz, HB⟩ := cov_facts 0 hb; obtain ⟨q0, q1, q2, q3, q4, q5, q6, q7, q8, q9, q10⟩ := bt.all; clear hb)
    | (go_at_call 30; refine (is_any _ _ _ _ _ _ _ _ _ _ _ _).mono ?_; rintro e w2 ⟨rfl, hb2⟩; rw [hIs]; clear q0 q1 q2 q3 q4 q5 q6 q7 q8 q9 q10; have ct := bt.below hb2 bt.lt; have cs := bs.below hb2 bs.lt; have HC := HB.trans (hb2.mono HB.size); obtain ⟨q0, q1, q2, q3, q4, q5, q6, q7, q8, q9, q10⟩ := ct.all; have r2 : ∀ o, (w2.alloc o).cell? ⟨w.heap.size, 2, none⟩ = some (.int .i64 x2) := fun o => (ct.alloc o).cell 2 _ rfl; have r3 : ∀ o, (w2.alloc o).cell? ⟨w.heap.size, 3, none⟩ = some (.int .i64 x3) := fun o => (ct.alloc o).cell 3 _ rfl; have rs : ∀ o, (w2.alloc o).cell? ⟨w.heap.size + 1, 0, none⟩ = some (.int .i64 s) := fun o => (cs.alloc o).cell 0 _ rfl)
    | go_in)
  go_ret2
  exact ⟨rfl, HC⟩
set_option maxRecDepth 100000 in
set_option maxHeartbeats 1000000 in
theorem covers_bad (x0 x1 x2 x3 x4 x5 x6 x7 x8 x9 x10 s : Int) (w : World) (hw : -9223372036854775808 ≤ s ∧ s ≤ 9223372036854775807) (hIs : isB x0 x1 x2 x3 x4 x5 x6 x7 x8 x9 x10 = false) :
    Calls Try.prog 27 #[.agg #[.int .i64 x0, .int .i64 x1, .int .i64 x2, .int .i64 x3, .int .i64 x4, .int .i64 x5, .int .i64 x6, .int .i64 x7, .int .i64 x8, .int .i64 x9, .int .i64 x10], .int .i64 s] w fun e w' => e = .returned (.tuple #[.bool false, .int .i64 1]) ∧ Below w.heap.size w w' := by
  go_enter Try.func27, Try.ntmps27
  go_wp2_with (first
    | (go_at_call 50; refine (zone_any _ _ hw).mono ?_; rintro e w1 ⟨rfl, hb⟩; obtain ⟨bt, bs, bz, HB⟩ := cov_facts (zoneR s).1 hb; obtain ⟨q0, q1, q2, q3, q4, q5, q6, q7, q8, q9, q10⟩ := bt.all; clear hb)
    | (go_at_call 30; refine (is_any _ _ _ _ _ _ _ _ _ _ _ _).mono ?_; rintro e w2 ⟨rfl, hb2⟩; rw [hIs]; clear q0 q1 q2 q3 q4 q5 q6 q7 q8 q9 q10; have ct := bt.below hb2 bt.lt; have cs := bs.below hb2 bs.lt; have HC := HB.trans (hb2.mono HB.size); obtain ⟨q0, q1, q2, q3, q4, q5, q6, q7, q8, q9, q10⟩ := ct.all; have r2 : ∀ o, (w2.alloc o).cell? ⟨w.heap.size, 2, none⟩ = some (.int .i64 x2) := fun o => (ct.alloc o).cell 2 _ rfl; have r3 : ∀ o, (w2.alloc o).cell? ⟨w.heap.size, 3, none⟩ = some (.int .i64 x3) := fun o => (ct.alloc o).cell 3 _ rfl; have rs : ∀ o, (w2.alloc o).cell? ⟨w.heap.size + 1, 0, none⟩ = some (.int .i64 s) := fun o => (cs.alloc o).cell 0 _ rfl)
    | go_in)
  go_ret2
  exact ⟨rfl, HC⟩
def coversR (x0 x1 x2 x3 x4 x5 x6 x7 x8 x9 x10 s : Int) : Bool × Int := if isB x0 x1 x2 x3 x4 x5 x6 x7 x8 x9 x10 = true ∧ 0 ≤ s ∧ s < 40 then ((if x1 = 3 then betw (zv s) x2 x3 else decide (mn x2 x3 ≤ s ∧ s ≤ mx x2 x3)), 0) else (false, 1)
theorem isB_way {x0 x1 x2 x3 x4 x5 x6 x7 x8 x9 x10 : Int} (h : isB x0 x1 x2 x3 x4 x5 x6 x7 x8 x9 x10 = true) (hk : x1 ≠ 3) : lisB x2 = true ∧ lisB x3 = true := by
  unfold isB at h
  rw [if_neg hk] at h
  simp only [wayB, Bool.and_eq_true] at h
  exact ⟨h.1.2.1.1, h.1.2.1.2⟩
theorem covers_any (x0 x1 x2 x3 x4 x5 x6 x7 x8 x9 x10 s : Int) (w : World) (hw : -9223372036854775808 ≤ s ∧ s ≤ 9223372036854775807) :
    Calls Try.prog 27 #[.agg #[.int .i64 x0, .int .i64 x1, .int .i64 x2, .int .i64 x3, .int .i64 x4, .int .i64 x5, .int .i64 x6, .int .i64 x7, .int .i64 x8, .int .i64 x9, .int .i64 x10], .int .i64 s] w fun e w' => e = .returned (.tuple #[.bool (coversR x0 x1 x2 x3 x4 x5 x6 x7 x8 x9 x10 s).1, .int .i64 (coversR x0 x1 x2 x3 x4 x5 x6 x7 x8 x9 x10 s).2]) ∧ Below w.heap.size w w' := by
  unfold coversR
  cases hIs : isB x0 x1 x2 x3 x4 x5 x6 x7 x8 x9 x10
  · rw [if_neg (by simp)]
    exact covers_bad x0 x1 x2 x3 x4 x5 x6 x7 x8 x9 x10 s w hw hIs
  · by_cases hs : 0 ≤ s ∧ s < 40
    · rw [if_pos ⟨rfl, hs⟩]
      by_cases hk : x1 = 3
      · rw [if_pos hk]
        subst hk
        exact covers_season x0 x2 x3 x4 x5 x6 x7 x8 x9 x10 s w hs.1 hs.2 hIs
      · rw [if_neg hk]
        obtain ⟨l2, l3⟩ := isB_way hIs hk
        cases hd : decide (mn x2 x3 ≤ s ∧ s ≤ mx x2 x3)
        · exact covers_other_no x0 x1 x2 x3 x4 x5 x6 x7 x8 x9 x10 s w hs.1 hs.2 hIs hk l2 l3 hd
        · exact covers_other_yes x0 x1 x2 x3 x4 x5 x6 x7 x8 x9 x10 s w hs.1 hs.2 hIs hk l2 l3 hd
    · rw [if_neg (fun h => hs h.2)]
      exact covers_off x0 x1 x2 x3 x4 x5 x6 x7 x8 x9 x10 s w hw hs hIs
end Go.Proofs.Ytdiijjdhofaodaa.G
end
section
namespace Go.Proofs.Ytdiijjdhofaodaa.Pure
open Go Go.RowKit Go.Proofs.Ytdiijjdhofaodaa.G Go.Proofs.Ytdiijjdhofaodaa.PL Go.Proofs.YtdiijjdhofaodaaW.PrintWords Go.Proofs.YtdiijjdhofaodaaW.PrintLast Go.Proofs.YtdiijjdhofaodaaW.PrintMore
theorem w64 {x : Int} (h0 : -9223372036854775808 ≤ x) (h1 : x ≤ 9223372036854775807) : wrap64 x = x := by
  unfold wrap64
  omega
theorem i64_of {n : Int} (h : (Lit.int .i64 n).wf = true) : -9223372036854775808 ≤ n ∧ n ≤ 9223372036854775807 := by
  have h1 : IntKind.i64.min = -9223372036854775808 := rfl
  have h2 : IntKind.i64.max = 9223372036854775807 := rfl
  simp only [Lit.wf, Bool.and_eq_true, decide_eq_true_eq] at h
  omega
theorem coversR_in (x0 x1 x2 x3 x4 x5 x6 x7 x8 x9 x10 : Int) (s : Int) (h : isB x0 x1 x2 x3 x4 x5 x6 x7 x8 x9 x10 = true) (hs : 0 ≤ s ∧ s < 40) : coversR x0 x1 x2 x3 x4 x5 x6 x7 x8 x9 x10 s = ((if x1 = 3 then betw (zv s) x2 x3 else decide (mn x2 x3 ≤ s ∧ s ≤ mx x2 x3)), 0) := if_pos ⟨h, hs⟩
end Go.Proofs.Ytdiijjdhofaodaa.Pure
end
section
namespace Go.Proofs.Ytdiijjdhofaodaa.G
open Go Go.RowKit Go.Proofs.YtdiijjdhofaodaaW.PrintWords Go.Proofs.YtdiijjdhofaodaaW.PrintLast Go.Proofs.YtdiijjdhofaodaaW.PrintMore
/-- Which of the four rules a kind has. -/
def ruleT (kd : Int) : TypeId := if kd = 1 then 85 else if kd = 2 then 86 else if kd = 3 then 87 else 83
theorem of_any (kd : Int) (w : World) : Calls Try.prog 44 #[.int .i64 kd] w fun e w' => e = .returned (.iface (ruleT kd) (.agg #[])) ∧ w = w' := by
  unfold ruleT
  by_cases h1 : kd = 1
  · subst h1
    go_enter Try.func44, Try.ntmps44
    go_wp2
    go_ret
    exact ⟨rfl, rfl⟩
  by_cases h2 : kd = 2
  · subst h2
    go_enter Try.func44, Try.ntmps44
    go_wp2
    go_ret
    exact ⟨rfl, rfl⟩
  by_cases h3 : kd = 3
  · subst h3
    go_enter Try.func44, Try.ntmps44
    go_wp2
    go_ret
    exact ⟨rfl, rfl⟩
  rw [if_neg h1, if_neg h2, if_neg h3]
  have e1 : (kd == 1) = false := beq_eq_false_iff_ne.2 h1
  have e2 : (kd == 2) = false := beq_eq_false_iff_ne.2 h2
  have e3 : (kd == 3) = false := beq_eq_false_iff_ne.2 h3
  go_enter Try.func44, Try.ntmps44
  go_wp2
  go_ret
  exact ⟨rfl, rfl⟩
end Go.Proofs.Ytdiijjdhofaodaa.G
end
section
namespace Go.Proofs.Ytdiijjdhofaodaa.G
open Go Go.RowKit Go.Proofs.YtdiijjdhofaodaaW.PrintWords Go.Proofs.YtdiijjdhofaodaaW.PrintLast Go.Proofs.YtdiijjdhofaodaaW.PrintMore
theorem Blk.frozen {W : World} {b : Nat} {cs : Array Value} {t : TypeId} (h : Blk W b cs t) (i : Nat) : W.frozen? ⟨b, i, none⟩ = false := by simp [World.frozen?, show W.heap[b]? = _ from h]
def suitsB (l i u : Int) : Bool := decide (0 ≤ l) && decide (l ≤ u) && decide (0 ≤ i) && decide (i ≤ 40)
theorem suits_any (x0 x1 x2 x3 x4 x5 x6 x7 x8 x9 x10 l i : Int) (w : World) :
    Calls Try.prog 24 #[.agg #[.int .i64 x0, .int .i64 x1, .int .i64 x2, .int .i64 x3, .int .i64 x4, .int .i64 x5, .int .i64 x6, .int .i64 x7, .int .i64 x8, .int .i64 x9, .int .i64 x10], .agg #[.int .i64 l, .int .i64 i]] w fun e w' => e = .returned (.bool (suitsB l i x9)) ∧ Below w.heap.size w w' := by
  by_cases h1 : 0 ≤ l <;> by_cases h2 : l ≤ x9 <;> by_cases h3 : 0 ≤ i
  all_goals
    go_enter Try.func24, Try.ntmps24
    go_wp2
    go_ret
    exact ⟨by simp [suitsB, *] <;> omega, by repeat' (first | exact Below.refl _ _ | refine Below.alloc ?_ (by first | exact Nat.le_refl _ | (simp only [World.size_alloc]; omega)) _)⟩
def jisB (x0 x1 x2 x3 x4 x5 x6 x7 x8 x9 x10 l i : Int) : Bool := isB x0 x1 x2 x3 x4 x5 x6 x7 x8 x9 x10 && suitsB l i x9 && (decide (i = 0) || ((coversR x0 x1 x2 x3 x4 x5 x6 x7 x8 x9 x10 (i - 1)).1 && (decide (x1 = 3) || decide (l < x9))))
/-- What lies behind a call: the ticket's box and the journey's. -/
theorem jj_facts {w w1 : World} {x0 x1 x2 x3 x4 x5 x6 x7 x8 x9 x10 l i : Int} (hb : Below ((w.alloc (.cells (tkA x0 x1 x2 x3 x4 x5 x6 x7 x8 x9 x10) 23)).alloc (.cells #[.int .i64 l, .int .i64 i] 25)).heap.size ((w.alloc (.cells (tkA x0 x1 x2 x3 x4 x5 x6 x7 x8 x9 x10) 23)).alloc (.cells #[.int .i64 l, .int .i64 i] 25)) w1) :
    Blk w1 w.heap.size (tkA x0 x1 x2 x3 x4 x5 x6 x7 x8 x9 x10) 23 ∧ Blk w1 (w.heap.size + 1) #[.int .i64 l, .int .i64 i] 25 ∧ Below w.heap.size w w1 := by
  refine ⟨Blk.below ((Blk.new w _ _).alloc _) hb (by simp only [World.size_alloc]; omega), Blk.below (b := w.heap.size + 1) (by simpa using Blk.new (w.alloc (.cells (tkA x0 x1 x2 x3 x4 x5 x6 x7 x8 x9 x10) 23)) #[.int .i64 l, .int .i64 i] 25) hb (by simp only [World.size_alloc]; omega), ?_⟩
  exact (((Below.refl _ w).alloc (Nat.le_refl _) _).alloc (by simp) _).trans (hb.mono (by simp only [World.size_alloc]; omega))
theorem jj_more {w w1 w2 : World} {x0 x1 x2 x3 x4 x5 x6 x7 x8 x9 x10 l i : Int} {n : Nat} (h : Blk w1 n (tkA x0 x1 x2 x3 x4 x5 x6 x7 x8 x9 x10) 23 ∧ Blk w1 (n + 1) #[.int .i64 l, .int .i64 i] 25 ∧ Below w.heap.size w w1) (hb : Below w1.heap.size w1 w2) :
    Blk w2 n (tkA x0 x1 x2 x3 x4 x5 x6 x7 x8 x9 x10) 23 ∧ Blk w2 (n + 1) #[.int .i64 l, .int .i64 i] 25 ∧ Below w.heap.size w w2 :=
  ⟨h.1.below hb h.1.lt, h.2.1.below hb h.2.1.lt, h.2.2.trans (hb.mono h.2.2.size)⟩
section
variable (x0 x1 x2 x3 x4 x5 x6 x7 x8 x9 x10 l i : Int) (w : World)
set_option maxRecDepth 100000 in
set_option maxHeartbeats 1000000 in
theorem jis_bad (hI : isB x0 x1 x2 x3 x4 x5 x6 x7 x8 x9 x10 = false) :
    Calls Try.prog 22 #[.agg #[.int .i64 x0, .int .i64 x1, .int .i64 x2, .int .i64 x3, .int .i64 x4, .int .i64 x5, .int .i64 x6, .int .i64 x7, .int .i64 x8, .int .i64 x9, .int .i64 x10], .agg #[.int .i64 l, .int .i64 i]] w fun e w' => e = .returned (.bool false) ∧ Below w.heap.size w w' := by
  go_enter Try.func22, Try.ntmps22
  go_wp2_with (first
    | (go_at_call 30; refine (is_any _ _ _ _ _ _ _ _ _ _ _ _).mono ?_; rintro e w1 ⟨rfl, hb⟩; rw [hI]; have F1 := jj_facts hb; clear hb)
    | go_in)
  go_ret
  exact ⟨rfl, F1.2.2⟩
set_option maxRecDepth 100000 in
set_option maxHeartbeats 1000000 in
theorem jis_unsuited (hI : isB x0 x1 x2 x3 x4 x5 x6 x7 x8 x9 x10 = true) (hS : suitsB l i x9 = false) :
    Calls Try.prog 22 #[.agg #[.int .i64 x0, .int .i64 x1, .int .i64 x2, .int .i64 x3, .int .i64 x4, .int .i64 x5, .int .i64 x6, .int .i64 x7, .int .i64 x8, .int .i64 x9, .int .i64 x10], .agg #[.int .i64 l, .int .i64 i]] w fun e w' => e = .returned (.bool false) ∧ Below w.heap.size w w' := by
  go_enter Try.func22, Try.ntmps22
  go_wp2_with (first
    | (go_at_call 30; refine (is_any _ _ _ _ _ _ _ _ _ _ _ _).mono ?_; rintro e w1 ⟨rfl, hb⟩; rw [hI]; have F1 := jj_facts hb; clear hb; obtain ⟨q0, q1, q2, q3, q4, q5, q6, q7, q8, q9, q10⟩ := F1.1.all; have p0 := F1.2.1.cell 0 _ rfl; have p1 := F1.2.1.cell 1 _ rfl)
    | (go_at_call 24; refine (suits_any _ _ _ _ _ _ _ _ _ _ _ _ _ _).mono ?_; rintro e w2 ⟨rfl, hb⟩; rw [hS]; clear q0 q1 q2 q3 q4 q5 q6 q7 q8 q9 q10 p0 p1; have F2 := jj_more F1 hb; clear hb)
    | go_in)
  go_ret
  exact ⟨rfl, F2.2.2⟩
set_option maxRecDepth 100000 in
set_option maxHeartbeats 1000000 in
theorem jis_out (hI : isB x0 x1 x2 x3 x4 x5 x6 x7 x8 x9 x10 = true) (hS : suitsB l 0 x9 = true) :
    Calls Try.prog 22 #[.agg #[.int .i64 x0, .int .i64 x1, .int .i64 x2, .int .i64 x3, .int .i64 x4, .int .i64 x5, .int .i64 x6, .int .i64 x7, .int .i64 x8, .int .i64 x9, .int .i64 x10], .agg #[.int .i64 l, .int .i64 0]] w fun e w' => e = .returned (.bool true) ∧ Below w.heap.size w w' := by
  go_enter Try.func22, Try.ntmps22
  go_wp2_with (first
    | (go_at_call 30; refine (is_any _ _ _ _ _ _ _ _ _ _ _ _).mono ?_; rintro e w1 ⟨rfl, hb⟩; rw [hI]; have F1 := jj_facts hb; clear hb; obtain ⟨q0, q1, q2, q3, q4, q5, q6, q7, q8, q9, q10⟩ := F1.1.all; have p0 := F1.2.1.cell 0 _ rfl; have p1 := F1.2.1.cell 1 _ rfl)
    | (go_at_call 24; refine (suits_any _ _ _ _ _ _ _ _ _ _ _ _ _ _).mono ?_; rintro e w2 ⟨rfl, hb⟩; rw [hS]; clear q0 q1 q2 q3 q4 q5 q6 q7 q8 q9 q10 p0 p1; have F2 := jj_more F1 hb; clear hb; have p1 := F2.2.1.cell 1 _ rfl)
    | go_in)
  go_ret
  exact ⟨rfl, F2.2.2⟩
set_option maxRecDepth 100000 in
set_option maxHeartbeats 1000000 in
theorem jis_in (b : Bool) (hI : isB x0 x1 x2 x3 x4 x5 x6 x7 x8 x9 x10 = true) (hS : suitsB l i x9 = true) (hi : i ≠ 0) (hw : -9223372036854775808 ≤ i - 1 ∧ i - 1 ≤ 9223372036854775807) (hc : coversR x0 x1 x2 x3 x4 x5 x6 x7 x8 x9 x10 (i - 1) = (b, 0)) :
    Calls Try.prog 22 #[.agg #[.int .i64 x0, .int .i64 x1, .int .i64 x2, .int .i64 x3, .int .i64 x4, .int .i64 x5, .int .i64 x6, .int .i64 x7, .int .i64 x8, .int .i64 x9, .int .i64 x10], .agg #[.int .i64 l, .int .i64 i]] w fun e w' => e = .returned (.bool (b && (decide (x1 = 3) || decide (l < x9)))) ∧ Below w.heap.size w w' := by
  have hi' : (i == 0) = false := beq_eq_false_iff_ne.2 hi
  have h1 : wrap64 (i - 1) = i - 1 := tw64 hw.1 hw.2
  cases b
  · go_enter Try.func22, Try.ntmps22
    go_wp2_with (first
      | (go_at_call 30; refine (is_any _ _ _ _ _ _ _ _ _ _ _ _).mono ?_; rintro e w1 ⟨rfl, hb⟩; rw [hI]; have F1 := jj_facts hb; clear hb; obtain ⟨q0, q1, q2, q3, q4, q5, q6, q7, q8, q9, q10⟩ := F1.1.all; have p0 := F1.2.1.cell 0 _ rfl; have p1 := F1.2.1.cell 1 _ rfl)
      | (go_at_call 24; refine (suits_any _ _ _ _ _ _ _ _ _ _ _ _ _ _).mono ?_; rintro e w2 ⟨rfl, hb⟩; rw [hS]; clear q0 q1 q2 q3 q4 q5 q6 q7 q8 q9 q10 p0 p1; have F2 := jj_more F1 hb; clear hb; obtain ⟨q0, q1, q2, q3, q4, q5, q6, q7, q8, q9, q10⟩ := F2.1.all; have p0 := F2.2.1.cell 0 _ rfl; have p1 := F2.2.1.cell 1 _ rfl)
      | (go_at_call 27; (try rw [h1]); refine (covers_any _ _ _ _ _ _ _ _ _ _ _ _ _ hw).mono ?_; rintro e w3 ⟨rfl, hb⟩; rw [hc]; clear q0 q1 q2 q3 q4 q5 q6 q7 q8 q9 q10 p0 p1; have F3 := jj_more F2 hb; clear hb; obtain ⟨q0, q1, q2, q3, q4, q5, q6, q7, q8, q9, q10⟩ := F3.1.all; have p0 := F3.2.1.cell 0 _ rfl; have p1 := F3.2.1.cell 1 _ rfl)
      | go_in)
    go_ret
    exact ⟨rfl, F3.2.2⟩
  · by_cases h3 : x1 = 3
    · subst h3
      go_enter Try.func22, Try.ntmps22
      go_wp2_with (first
        | (go_at_call 30; refine (is_any _ _ _ _ _ _ _ _ _ _ _ _).mono ?_; rintro e w1 ⟨rfl, hb⟩; rw [hI]; have F1 := jj_facts hb; clear hb; obtain ⟨q0, q1, q2, q3, q4, q5, q6, q7, q8, q9, q10⟩ := F1.1.all; have p0 := F1.2.1.cell 0 _ rfl; have p1 := F1.2.1.cell 1 _ rfl)
        | (go_at_call 24; refine (suits_any _ _ _ _ _ _ _ _ _ _ _ _ _ _).mono ?_; rintro e w2 ⟨rfl, hb⟩; rw [hS]; clear q0 q1 q2 q3 q4 q5 q6 q7 q8 q9 q10 p0 p1; have F2 := jj_more F1 hb; clear hb; obtain ⟨q0, q1, q2, q3, q4, q5, q6, q7, q8, q9, q10⟩ := F2.1.all; have p0 := F2.2.1.cell 0 _ rfl; have p1 := F2.2.1.cell 1 _ rfl)
        | (go_at_call 27; (try rw [h1]); refine (covers_any _ _ _ _ _ _ _ _ _ _ _ _ _ hw).mono ?_; rintro e w3 ⟨rfl, hb⟩; rw [hc]; clear q0 q1 q2 q3 q4 q5 q6 q7 q8 q9 q10 p0 p1; have F3 := jj_more F2 hb; clear hb; obtain ⟨q0, q1, q2, q3, q4, q5, q6, q7, q8, q9, q10⟩ := F3.1.all; have p0 := F3.2.1.cell 0 _ rfl; have p1 := F3.2.1.cell 1 _ rfl)
        | go_in)
      go_ret
      exact ⟨rfl, F3.2.2⟩
    · have h3' : (x1 == 3) = false := beq_eq_false_iff_ne.2 h3
      rw [decide_eq_false h3, Bool.false_or, Bool.true_and]
      go_enter Try.func22, Try.ntmps22
      go_wp2_with (first
        | (go_at_call 30; refine (is_any _ _ _ _ _ _ _ _ _ _ _ _).mono ?_; rintro e w1 ⟨rfl, hb⟩; rw [hI]; have F1 := jj_facts hb; clear hb; obtain ⟨q0, q1, q2, q3, q4, q5, q6, q7, q8, q9, q10⟩ := F1.1.all; have p0 := F1.2.1.cell 0 _ rfl; have p1 := F1.2.1.cell 1 _ rfl)
        | (go_at_call 24; refine (suits_any _ _ _ _ _ _ _ _ _ _ _ _ _ _).mono ?_; rintro e w2 ⟨rfl, hb⟩; rw [hS]; clear q0 q1 q2 q3 q4 q5 q6 q7 q8 q9 q10 p0 p1; have F2 := jj_more F1 hb; clear hb; obtain ⟨q0, q1, q2, q3, q4, q5, q6, q7, q8, q9, q10⟩ := F2.1.all; have p0 := F2.2.1.cell 0 _ rfl; have p1 := F2.2.1.cell 1 _ rfl)
        | (go_at_call 27; (try rw [h1]); refine (covers_any _ _ _ _ _ _ _ _ _ _ _ _ _ hw).mono ?_; rintro e w3 ⟨rfl, hb⟩; rw [hc]; clear q0 q1 q2 q3 q4 q5 q6 q7 q8 q9 q10 p0 p1; have F3 := jj_more F2 hb; clear hb; obtain ⟨q0, q1, q2, q3, q4, q5, q6, q7, q8, q9, q10⟩ := F3.1.all; have p0 := F3.2.1.cell 0 _ rfl; have p1 := F3.2.1.cell 1 _ rfl)
        | go_in)
      go_ret
      exact ⟨rfl, F3.2.2⟩
theorem jis_any :
    Calls Try.prog 22 #[.agg #[.int .i64 x0, .int .i64 x1, .int .i64 x2, .int .i64 x3, .int .i64 x4, .int .i64 x5, .int .i64 x6, .int .i64 x7, .int .i64 x8, .int .i64 x9, .int .i64 x10], .agg #[.int .i64 l, .int .i64 i]] w fun e w' => e = .returned (.bool (jisB x0 x1 x2 x3 x4 x5 x6 x7 x8 x9 x10 l i)) ∧ Below w.heap.size w w' := by
  unfold jisB
  cases hI : isB x0 x1 x2 x3 x4 x5 x6 x7 x8 x9 x10
  · exact jis_bad x0 x1 x2 x3 x4 x5 x6 x7 x8 x9 x10 l i w hI
  · cases hS : suitsB l i x9
    · exact jis_unsuited x0 x1 x2 x3 x4 x5 x6 x7 x8 x9 x10 l i w hI hS
    · by_cases hi : i = 0
      · subst hi
        exact jis_out x0 x1 x2 x3 x4 x5 x6 x7 x8 x9 x10 l w hI hS
      · have hr : 0 ≤ i ∧ i ≤ 40 := by simp only [suitsB, Bool.and_eq_true, decide_eq_true_eq] at hS; omega
        rw [decide_eq_false hi, Bool.false_or, Bool.true_and, Bool.true_and]
        refine jis_in x0 x1 x2 x3 x4 x5 x6 x7 x8 x9 x10 l i w _ hI hS hi (by omega) (Prod.ext rfl ?_)
        unfold coversR
        rw [if_pos ⟨hI, by omega, by omega⟩]
end
end Go.Proofs.Ytdiijjdhofaodaa.G
end
