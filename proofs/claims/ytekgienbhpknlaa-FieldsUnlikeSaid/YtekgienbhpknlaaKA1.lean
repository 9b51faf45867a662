/- What the functions that this claim reaches do and answer: printed words and walks, walks by hand and plain laws, packed together, each with its own remark; printed rows are by the kit's print program, turned by this session. Conditions: those that each theorem states. -/
import Derived.Laws.StructEq
import Derived.Below
import Derived.Deep.Draws
import Derived.Deep.AppendLies
import Derived.Maps.AppendAt
import Derived.OwnWalk
import Derived.Laws.BytesArg
import Derived.Laws.MakeOwn
import Derived.Laws.OwnMore
import Derived.Deep.OwnRows
import Derived.Tactics
import Derived.Lib.ConvBytes
import Derived.Laws.Slices
import Derived.WalkKit
import Derived.KernelRfl
import Derived.RowKit3
import Derived.Deep.LoopGhost
import Derived.Deep.QuietTactic
import Derived.BigQuiet
import Derived.WideLaws
import Derived.Deep.DeepCutAuto
import Derived.Deep.CutBlock
import Derived.Deep.RegionHeld3
import Derived.Laws.Rows
import Derived.Lib.AppendStr
import Derived.ArgAppend
import Derived.Laws.IdiomCopy
import Derived.OrdersHeld
import Derived.Laws.BitsLemmas
import Derived.RowKit
import Derived.RegionTactic
import Derived.BigRegion
import Derived.Laws.BitsAllLaws
import Derived.Test.YtekgienbhpknlaaKA0
import Derived.Test.YtekgienbhpknlaaProg
section
namespace Go.Proofs.YtekgienbhpknlaaW.PrintLast
open Go.Proofs.YtekgienbhpknlaaW.PrintWords (Aside0)
def needsOf (md : Region.Mode) (o : Oper) : List Nat := (o.after.toList.filter (fun e => Region.binds md e)).map (fun e => e.on)
def clashOf (md : Region.Mode) (ops : Array Oper) (i : Nat) (oi : Oper) : List Nat := (List.range ops.size).filter fun j => !(j == i) && match ops[j]? with
  | some oj => !(oj.after.any (fun e => Region.binds md e && e.on == i) || oi.apart ops oj)
  | none => false

def rtab (md : Region.Mode) (ops : Array Oper) : Bool × List (List Nat × List Nat) := (Region.noSelect ops, (List.range ops.size).map fun i => match ops[i]? with
  | some o => (needsOf md o, clashOf md ops i o)
  | none => ([], []))
def readyAt (T : List (List Nat × List Nat)) (l : List Bool) (i : Nat) : Bool := !l.getD i true && match T[i]? with
  | some r => r.1.all (fun j => l.getD j false)
  | none => false
def readyT (T : List (List Nat × List Nat)) (l : List Bool) : List Nat := (List.range T.length).filter (readyAt T l)
def freeT (T : List (List Nat × List Nat)) (l : List Bool) (i : Nat) : Bool := match T[i]? with
  | some r => r.2.all (fun j => l.getD j true)
  | none => false
def closedT (T : List (List Nat × List Nat)) (l : List Bool) : Bool := (List.range T.length).all fun j => !l.getD j false || match T[j]? with
  | some r => r.1.all (fun k => l.getD k false)
  | none => true
def reachT (T : List (List Nat × List Nat)) (i : Nat) : Nat → Nat → Bool
  | 0, _ => false
  | fuel + 1, d => match T[d]? with
    | some r => r.1.any fun j => j == i || reachT T i fuel j
    | none => false
def lastT (T : List (List Nat × List Nat)) (l : List Bool) (ds : List Nat) (i : Nat) : Bool := ds.all fun d => l.getD d true || reachT T i T.length d
section
variable {md : Region.Mode} {ops : Array Oper} {T : Bool × List (List Nat × List Nat)} {l l' li lj lk : Array Bool} {ds : List Nat} {i j k : Nat}
theorem gd (l : Array Bool) (j : Nat) (b : Bool) : l.getD j b = l.toList.getD j b := by simp [Array.getD_eq_getD_getElem?, List.getD_eq_getElem?_getD]
theorem needs_all (o : Oper) (p : Nat → Bool) : o.after.all (fun e => !Region.binds md e || p e.on) = (needsOf md o).all p := by
  unfold needsOf
  rw [← Array.all_toList]
  induction o.after.toList with
  | nil => rfl
  | cons e r ih =>
    rw [List.all_cons, ih, List.filter_cons]
    cases h : Region.binds md e <;> simp
theorem needs_any (o : Oper) (p : Nat → Bool) : o.after.any (fun e => Region.binds md e && p e.on) = (needsOf md o).any p := by
  unfold needsOf
  rw [← Array.any_toList]
  induction o.after.toList with
  | nil => rfl
  | cons e r ih =>
    rw [List.any_cons, ih, List.filter_cons]
    cases h : Region.binds md e <;> simp
theorem rtab_length : (rtab md ops).2.length = ops.size := by simp [rtab]
theorem rtab_some {o : Oper} (h : ops[i]? = some o) : (rtab md ops).2[i]? = some (needsOf md o, clashOf md ops i o) := by
  have hi := (Array.getElem?_eq_some_iff.1 h).1
  unfold rtab
  rw [List.getElem?_map, List.getElem?_range hi, Option.map_some, h]
theorem rtab_none (h : ops[i]? = none) : (rtab md ops).2[i]? = none := by
  have hi : ops.size ≤ i := Array.getElem?_eq_none_iff.1 h
  exact List.getElem?_eq_none (by rw [rtab_length]; exact hi)
theorem readyAt_eq : readyAt (rtab md ops).2 l.toList i = (!l.getD i true && ((ops[i]?).map (·.after.all fun e => !Region.binds md e || l.getD e.on false)).getD false) := by
  unfold readyAt
  rw [gd]
  cases h : ops[i]? with
  | none => rw [rtab_none h]; rfl
  | some o =>
    rw [rtab_some h]
    simp only [Option.map_some, Option.getD_some]
    rw [← needs_all]
    simp only [gd]
theorem ready_eq : Region.ready md ops l = readyT (rtab md ops).2 l.toList := by
  unfold Region.ready readyT
  rw [rtab_length]
  refine List.filter_congr (fun i _ => ?_)
  rw [readyAt_eq]
theorem free_eq : Region.free md ops l i = freeT (rtab md ops).2 l.toList i := by
  unfold Region.free freeT
  cases h : ops[i]? with
  | none => rw [rtab_none h]
  | some oi =>
    rw [rtab_some h]
    simp only [clashOf]
    rw [List.all_filter]
    congr 1
    funext j
    rw [gd]
    cases hj : ops[j]? with
    | none => cases (j == i) <;> cases (l.toList.getD j true) <;> simp
    | some oj =>
      cases (j == i) <;> cases (l.toList.getD j true) <;> cases (oj.after.any (fun e => Region.binds md e && e.on == i) || oi.apart ops oj) <;> simp_all
theorem closed_eq : Region.closedB md ops l = closedT (rtab md ops).2 l.toList := by
  unfold Region.closedB closedT
  rw [rtab_length]
  congr 1
  funext j
  rw [gd]
  cases h : ops[j]? with
  | none => rw [rtab_none h]
  | some o =>
    rw [rtab_some h]
    simp only
    rw [← needs_all]
    simp only [gd]
theorem reach_eq : ∀ (fuel d : Nat), Region.reachB md ops i fuel d = reachT (rtab md ops).2 i fuel d
  | 0, _ => rfl
  | fuel + 1, d => by
    unfold Region.reachB reachT
    cases h : ops[d]? with
    | none => rw [rtab_none h]
    | some o =>
      rw [rtab_some h]
      simp only
      rw [← needs_any]
      congr 1
      funext e
      rw [reach_eq fuel]
theorem last_eq : Region.lastB md ops l ds i = lastT (rtab md ops).2 l.toList ds i := by
  unfold Region.lastB lastT
  rw [rtab_length]
  congr 1
  funext d
  rw [gd, reach_eq]
theorem readyAt_mem (h : readyAt T.2 l.toList i = true) (hT : rtab md ops = T) : (Region.ready md ops l).contains i = true := by
  subst hT
  rw [ready_eq]
  unfold readyT
  rw [List.contains_iff_mem, List.mem_filter, List.mem_range]
  refine ⟨?_, h⟩
  unfold readyAt at h
  rw [Bool.and_eq_true] at h
  cases hq : (rtab md ops).2[i]? with
  | none => rw [hq] at h; simp at h
  | some r => exact (List.getElem?_eq_some_iff.1 hq).1
theorem set_of (h : (l.toList.set i true == l'.toList) = true) : (l.setIfInBounds i true == l') = true := by
  rw [beq_iff_eq] at h ⊢
  apply Array.ext'
  rw [Array.toList_setIfInBounds]
  exact h
def anyT (T : Bool × List (List Nat × List Nat)) (l l' : List Bool) (i : Nat) : Bool := T.1 && freeT T.2 l i && readyAt T.2 l i && (l.set i true == l')

theorem any_of (hT : rtab md ops = T) (h : anyT T l.toList l'.toList i = true) : anyB md ops l l' i = true := by
  simp only [anyT, Bool.and_eq_true] at h
  obtain ⟨⟨⟨h1, h2⟩, h3⟩, h4⟩ := h
  have h5 := readyAt_mem h3 hT
  have h6 := set_of h4
  subst hT
  simp only [anyB, Bool.and_eq_true]
  exact ⟨⟨⟨h1, by rw [free_eq]; exact h2⟩, h5⟩, h6⟩
def takeT (T : Bool × List (List Nat × List Nat)) (ds : List Nat) (l l' : List Bool) (i : Nat) : Bool := T.1 && freeT T.2 l i && readyAt T.2 l i && closedT T.2 l && lastT T.2 l ds i && (l.set i true == l')

theorem take_of (hT : rtab md ops = T) (h : takeT T ds l.toList l'.toList i = true) : takeB md ops ds l l' i = true := by
  simp only [takeT, Bool.and_eq_true] at h
  obtain ⟨⟨⟨⟨⟨h1, h2⟩, h3⟩, h4⟩, h5⟩, h6⟩ := h
  have h7 := readyAt_mem h3 hT
  have h8 := set_of h6
  subst hT
  simp only [takeB, Bool.and_eq_true]
  exact ⟨⟨⟨⟨⟨h1, by rw [free_eq]; exact h2⟩, h7⟩, by rw [closed_eq]; exact h4⟩, by rw [last_eq]; exact h5⟩, h8⟩

theorem one_of (hT : rtab md ops = T) (h : (readyT T.2 l.toList == [i] && l.toList.set i true == l'.toList) = true) : readyB md ops l l' i = true := by
  simp only [Bool.and_eq_true] at h
  obtain ⟨h1, h2⟩ := h
  subst hT
  simp only [readyB, Bool.and_eq_true]
  exact ⟨by rw [ready_eq]; exact h1, set_of h2⟩
theorem done_of (hT : rtab md ops = T) (h : (readyT T.2 l.toList == []) = true) : (Region.ready md ops l == []) = true := by
  subst hT
  rw [ready_eq]
  exact h

def upM (B : List Nat) (d : Nat) : List Nat → Nat
  | [] => 0
  | n :: r => (2 ^ n ||| (if n < d then B.getD n 0 else 0)) ||| upM B d r
def waitsOk (T : List (List Nat × List Nat)) (B : List Nat) : Bool := (List.range T.length).all fun d => match T[d]? with
  | some r => (B.getD d 0 ||| upM B d r.1) == upM B d r.1
  | none => false
theorem upM_bit {B : List Nat} {d i : Nat} : ∀ {ns : List Nat}, (upM B d ns).testBit i = true → ∃ n ∈ ns, n = i ∨ (n < d ∧ (B.getD n 0).testBit i = true)
  | [], h => by simp [upM] at h
  | n :: r, h => by
    unfold upM at h
    rw [Nat.testBit_or, Nat.testBit_or, Bool.or_eq_true, Bool.or_eq_true] at h
    rcases h with (h | h) | h
    · rw [Nat.testBit_two_pow] at h
      exact ⟨n, List.mem_cons_self, .inl (by simpa using h)⟩
    · by_cases hn : n < d
      · rw [if_pos hn] at h
        exact ⟨n, List.mem_cons_self, .inr ⟨hn, h⟩⟩
      · rw [if_neg hn] at h
        simp at h
    · obtain ⟨m, hm, h2⟩ := upM_bit h
      exact ⟨m, List.mem_cons_of_mem _ hm, h2⟩
theorem reach_bit {T : List (List Nat × List Nat)} {B : List Nat} (hB : waitsOk T B = true) : ∀ (fuel d : Nat), d < fuel → d < T.length → (B.getD d 0).testBit i = true → reachT T i fuel d = true
  | 0, d, h, _, _ => by omega
  | fuel + 1, d, h, hd, hb => by
    have h1 := List.all_eq_true.1 hB d (List.mem_range.2 hd)
    cases hr : T[d]? with
    | none => rw [hr] at h1; simp at h1
    | some r =>
      rw [hr] at h1
      simp only [beq_iff_eq] at h1
      have h2 : (upM B d r.1).testBit i = true := by rw [← h1, Nat.testBit_or, hb, Bool.true_or]
      obtain ⟨n, hn, h3⟩ := upM_bit h2
      unfold reachT
      rw [hr]
      simp only
      rw [List.any_eq_true]
      refine ⟨n, hn, ?_⟩
      rcases h3 with rfl | ⟨h4, h5⟩
      · simp
      · rw [reach_bit hB fuel n (by omega) (by omega) h5, Bool.or_true]
def lastW (T : List (List Nat × List Nat)) (B : List Nat) (l : List Bool) (ds : List Nat) (i : Nat) : Bool := ds.all fun d => l.getD d true || (decide (d < T.length) && (B.getD d 0).testBit i)
def takeW (T : Bool × List (List Nat × List Nat)) (B : List Nat) (ds : List Nat) (l l' : List Bool) (i : Nat) : Bool := T.1 && freeT T.2 l i && readyAt T.2 l i && closedT T.2 l && lastW T.2 B l ds i && (l.set i true == l')

theorem take_ofW {B : List Nat} (hT : rtab md ops = T) (hB : waitsOk T.2 B = true) (h : takeW T B ds l.toList l'.toList i = true) : takeB md ops ds l l' i = true := by
  refine take_of hT ?_
  simp only [takeW, takeT, Bool.and_eq_true] at h ⊢
  obtain ⟨⟨⟨⟨⟨h1, h2⟩, h3⟩, h4⟩, h5⟩, h6⟩ := h
  refine ⟨⟨⟨⟨⟨h1, h2⟩, h3⟩, h4⟩, ?_⟩, h6⟩
  unfold lastW at h5
  unfold lastT
  rw [List.all_eq_true] at h5 ⊢
  intro d hd
  have h7 := h5 d hd
  rw [Bool.or_eq_true, Bool.and_eq_true, decide_eq_true_eq] at h7
  rcases h7 with h7 | ⟨h8, h9⟩
  · rw [h7, Bool.true_or]
  · rw [reach_bit hB _ d h8 h8 h9, Bool.or_true]
theorem with_tabW {P : Program} {Q : Exit → Act → World → Prop} {S : World → Prop} {n : Nat} {a : Act} {w : World} {B : List Nat} (hT : rtab md ops = T) (hB : waitsOk T.2 B = true) (h : Aside0 (rtab md ops = T) → Aside0 (waitsOk T.2 B = true) → wpAnyLast P md ops Q S ds n l a w) : wpAnyLast P md ops Q S ds n l a w := h ⟨hT⟩ ⟨hB⟩
end

def opsIn : Code → Nat → Option (Array Oper)
  | .region id ops _, k => if id == k then some ops else none
  | .seq a b, k => match opsIn a k with
    | some o => some o
    | none => opsIn b k
  | .cond _ a b, k => match opsIn a k with
    | some o => some o
    | none => opsIn b k
  | .block _ c, k => opsIn c k
  | .loop c, k => opsIn c k
  | .scope c, k => opsIn c k
  | .rangeFunc _ _ a b, k => match opsIn a k with
    | some o => some o
    | none => opsIn b k
  | _, _ => none
def opsOf (f : Func) (k : Nat) : Array Oper := ((f.body.bind fun c => opsIn c k)).getD #[]
end Go.Proofs.YtekgienbhpknlaaW.PrintLast
end
section
namespace Go.Proofs.YtekgienbhpknlaaW.PrintLast
section
variable {P : Program} {ops : Array Oper} {Q : Exit → Act → World → Prop} {md : Region.Mode} {S : World → Prop} {ds : List Nat} {T : Bool × List (List Nat × List Nat)}
end
end Go.Proofs.YtekgienbhpknlaaW.PrintLast
end
section
namespace Go.Proofs.YtekgienbhpknlaaW.PrintWords
open Go.RowKit
namespace Kd

section
variable {α : Type} {d : Kd α} {W : World} {g n : Nat} {S ok : Nat → Prop} {A : Option Addr} {ad : Addr} {xs : List α}
end
end Kd
end Go.Proofs.YtekgienbhpknlaaW.PrintWords
end
section
namespace Go.Proofs.YtekgienbhpknlaaW.PrintWords
open Go.RowKit
section
variable {w w' u : World} {m B g : Nat} {o : Obj} {row : Option Nat} {S : Nat → Prop} {a : Addr} {v : Value}
end
namespace Kd
section
variable {α : Type} {d : Kd α} {e base n m : Nat} {ok : Nat → Prop} {w w' : World} {v : Value} {A : Option Addr} {xs : List α}
end
end Kd
end Go.Proofs.YtekgienbhpknlaaW.PrintWords
end
section
namespace Go.Proofs.YtekgienbhpknlaaW.PrintWords
open Go.RowKit
section
variable {P : Program} {d : Nat} {xs ys : Array Value} {f : Field} {fs : List Field} {a b : Value} {r s : Bool} {w : World}

theorem eqf_last (hn : (f.name == "_") = false) (ha : (part f.type xs f.offset).run P w = .ok a w) (hb : (part f.type ys f.offset).run P w = .ok b w) (he : (Op.equalIn d f.type a b).run P w = .ok r w) : (Op.eqFields d xs ys [f]).run P w = .ok r w := by
  have hn' : f.name ≠ "_" := by simpa using hn
  simp only [Op.eqFields, if_pos hn', Sem.run_bind, ha, hb, he, Result.andThen_ok]
  cases r <;> simp
theorem eqf_cons (hn : (f.name == "_") = false) (ha : (part f.type xs f.offset).run P w = .ok a w) (hb : (part f.type ys f.offset).run P w = .ok b w) (he : (Op.equalIn d f.type a b).run P w = .ok r w) (hr : (Op.eqFields d xs ys fs).run P w = .ok s w) : (Op.eqFields d xs ys (f :: fs)).run P w = .ok (r && s) w := by
  have hn' : f.name ≠ "_" := by simpa using hn
  rw [Op.eqFields]
  simp only [if_pos hn', Sem.run_bind, ha, hb, he, Result.andThen_ok]
  cases r
  · simp
  · simpa using hr

theorem eqA_of {t : TypeId} {fs : Array Field} (hu : P.underlying t = some (.struct fs)) (hp : P.stoodInHeld t = false) (h : (Op.eqFields d xs ys fs.toList).run P w = .ok r w) : (Op.equalIn (d + 1) t (.agg xs) (.agg ys)).run P w = .ok r w := by
  have hf : P.fieldsOf t = fs := by simp [Program.fieldsOf, hu]
  rw [run_equalIn_struct (P := P) w d t xs ys (by rw [hf]; exact hu) hp, hf]
  exact h
end
end Go.Proofs.YtekgienbhpknlaaW.PrintWords
end
section
namespace Go.Proofs.YtekgienbhpknlaaW.PrintWords

theorem Reps.one {α : Type} {R : α → List Value → Prop} {ps : List α} {cs : List Value} {p : α} {v : Value} (hp : R p [v]) (h : Reps R 1 ps cs) : Reps R 1 (p :: ps) (v :: cs) := by
  refine ⟨by simp [h.1], fun j q hq => ?_⟩
  cases j with
  | zero =>
    simp only [List.getElem?_cons_zero, Option.some.injEq] at hq
    subst hq
    simpa using hp
  | succ j =>
    simp only [List.getElem?_cons_succ] at hq
    have h1 := h.2 j q hq
    simpa [Nat.mul_one] using h1

theorem Reps.front {α : Type} {R : α → List Value → Prop} {size : Nat} {ps : List α} {cs c all : List Value} {p : α} (hp : R p c) (hc : c.length = size) (h : Reps R size ps cs) (ha : c ++ cs = all) : Reps R size (p :: ps) all := by
  subst ha
  refine ⟨by rw [List.length_append, hc, h.1, List.length_cons, Nat.succ_mul, Nat.add_comm], fun j q hq => ?_⟩
  cases j with
  | zero =>
    simp only [List.getElem?_cons_zero, Option.some.injEq] at hq
    subst hq
    rw [Nat.zero_mul, List.drop_zero, List.take_append_of_le_length (by omega), List.take_of_length_le (by omega)]
    exact hp
  | succ j =>
    simp only [List.getElem?_cons_succ] at hq
    have h1 := h.2 j q hq
    rw [Nat.succ_mul, List.drop_append, List.drop_of_length_le (by rw [hc]; exact Nat.le_add_left _ _), List.nil_append, hc, Nat.add_sub_cancel]
    exact h1
theorem Reps.c2 {α : Type} {R : α → List Value → Prop} {ps : List α} {cs : List Value} {p : α} {va vb : Value} (hp : R p [va, vb]) (h : Reps R 2 ps cs) : Reps R 2 (p :: ps) (va :: vb :: cs) := Reps.front hp rfl h rfl
theorem Reps.c3 {α : Type} {R : α → List Value → Prop} {ps : List α} {cs : List Value} {p : α} {va vb vc : Value} (hp : R p [va, vb, vc]) (h : Reps R 3 ps cs) : Reps R 3 (p :: ps) (va :: vb :: vc :: cs) := Reps.front hp rfl h rfl
theorem Reps.c4 {α : Type} {R : α → List Value → Prop} {ps : List α} {cs : List Value} {p : α} {va vb vc vd : Value} (hp : R p [va, vb, vc, vd]) (h : Reps R 4 ps cs) : Reps R 4 (p :: ps) (va :: vb :: vc :: vd :: cs) := Reps.front hp rfl h rfl
theorem Reps.c5 {α : Type} {R : α → List Value → Prop} {ps : List α} {cs : List Value} {p : α} {va vb vc vd ve : Value} (hp : R p [va, vb, vc, vd, ve]) (h : Reps R 5 ps cs) : Reps R 5 (p :: ps) (va :: vb :: vc :: vd :: ve :: cs) := Reps.front hp rfl h rfl
theorem Reps.c6 {α : Type} {R : α → List Value → Prop} {ps : List α} {cs : List Value} {p : α} {va vb vc vd ve vf : Value} (hp : R p [va, vb, vc, vd, ve, vf]) (h : Reps R 6 ps cs) : Reps R 6 (p :: ps) (va :: vb :: vc :: vd :: ve :: vf :: cs) := Reps.front hp rfl h rfl
theorem Reps.c7 {α : Type} {R : α → List Value → Prop} {ps : List α} {cs : List Value} {p : α} {va vb vc vd ve vf vg : Value} (hp : R p [va, vb, vc, vd, ve, vf, vg]) (h : Reps R 7 ps cs) : Reps R 7 (p :: ps) (va :: vb :: vc :: vd :: ve :: vf :: vg :: cs) := Reps.front hp rfl h rfl
theorem Reps.c8 {α : Type} {R : α → List Value → Prop} {ps : List α} {cs : List Value} {p : α} {va vb vc vd ve vf vg vh : Value} (hp : R p [va, vb, vc, vd, ve, vf, vg, vh]) (h : Reps R 8 ps cs) : Reps R 8 (p :: ps) (va :: vb :: vc :: vd :: ve :: vf :: vg :: vh :: cs) := Reps.front hp rfl h rfl
theorem Reps.c9 {α : Type} {R : α → List Value → Prop} {ps : List α} {cs : List Value} {p : α} {va vb vc vd ve vf vg vh vi : Value} (hp : R p [va, vb, vc, vd, ve, vf, vg, vh, vi]) (h : Reps R 9 ps cs) : Reps R 9 (p :: ps) (va :: vb :: vc :: vd :: ve :: vf :: vg :: vh :: vi :: cs) := Reps.front hp rfl h rfl
theorem Reps.c10 {α : Type} {R : α → List Value → Prop} {ps : List α} {cs : List Value} {p : α} {va vb vc vd ve vf vg vh vi vj : Value} (hp : R p [va, vb, vc, vd, ve, vf, vg, vh, vi, vj]) (h : Reps R 10 ps cs) : Reps R 10 (p :: ps) (va :: vb :: vc :: vd :: ve :: vf :: vg :: vh :: vi :: vj :: cs) := Reps.front hp rfl h rfl
end Go.Proofs.YtekgienbhpknlaaW.PrintWords
end
section
namespace Go.Proofs.YtekgienbhpknlaaW.PrintLast

section
variable {P : Program} {ops : Array Oper} {Q : Exit → Act → World → Prop} {md : Region.Mode} {T : Bool × List (List Nat × List Nat)} {B : List Nat} {O : List Nat} {b : Nat → Bool} {i j n : Nat}
end
end Go.Proofs.YtekgienbhpknlaaW.PrintLast
end
section
namespace Go.Proofs.YtekgienbhpknlaaW.PrintWords
open Go.RowKit

end Go.Proofs.YtekgienbhpknlaaW.PrintWords
namespace Go.Proofs.YtekgienbhpknlaaW.PrintLast
section
variable {ops : Array Oper} {a : Act} {o og : Oper} {g : Nat} {t : Tmp} {u : Bool}

end
end Go.Proofs.YtekgienbhpknlaaW.PrintLast
end
section
namespace Go.Proofs.YtekgienbhpknlaaW.PrintWords
open Go.RowKit
section
variable {P : Program} {ops : Array Oper} {rest : List Oper} {o : Oper} {a : Act} {Q : Exit → Act → World → Prop} {W : World}

theorem gate_guard (hw : Region.wanted o (yielded ops a.tmps) = true) (h : wpList P ops Q ({ o with guard := none } :: rest) a W) : wpList P ops Q (o :: rest) a W := by
  have h1 : Region.wanted { o with guard := none } (yielded ops a.tmps) = true := rfl
  unfold wpList at h ⊢
  rw [if_pos h1] at h
  rw [if_pos hw]
  exact h

end
end Go.Proofs.YtekgienbhpknlaaW.PrintWords
end
section
namespace Go.Proofs.Ytekgienbhpknlaa.PL
open Go.RowKit Go.Proofs.YtekgienbhpknlaaW.PrintWords Go.Proofs.YtekgienbhpknlaaW.PrintLast Go.Proofs.YtekgienbhpknlaaW.PrintMore
attribute [local go_sem] max2_int min2_int max_two min_two max_three min_three max_four min_four   -- for this text's walks alone
set_option linter.unusedVariables false
set_option linter.unusedSimpArgs false



def errW : Option Int → Value
  | none => .nilIface
  | some c => .iface 0 (.int .i64 c)
theorem errW_none : errW none = .nilIface := rfl
theorem errW_some (c : Int) : errW (some c) = .iface 0 (.int .i64 c) := rfl

theorem info3 : (Try.prog.info? 3).map (fun i => (i.zero, i.size, i.bytes)) = some (some (.int .i64 0), 1, 8) := by kernel_rfl
theorem info5 : (Try.prog.info? 5).map (fun i => (i.zero, i.size, i.bytes)) = some (some (.int .u8 0), 1, 1) := by kernel_rfl
theorem info40 : (Try.prog.info? 40).map (fun i => (i.zero, i.size, i.bytes)) = some (some (.agg #[(.int .i64 0), (.slice none 0 0)]), 2, 32) := by kernel_rfl
-- the values' own types
def rd_L2 (xs : List (List Int)) (i : Int) : (List Int) := xs.getD i.toNat ([] : List Int)
theorem at_L2 {w : World} {A : Option Addr} {n : Nat} {xs : List (List Int)} (h : Kd.C (Kd.slice 5 (Kd.int .u8)) w A n xs) (i : Int) (h0 : 0 ≤ i) (h1 : i < n) : ∃ ad A0 c0, A = some ad ∧ w.cell? (ad.add i.toNat) = some (.slice A0 (rd_L2 xs i).length c0) ∧ (rd_L2 xs i).length ≤ c0 ∧ (Kd.int .u8).C w A0 (rd_L2 xs i).length (rd_L2 xs i) := by
  obtain ⟨ad, c, e, _, hK, hc0⟩ := Kd.C_get h ([] : List Int) i h0 h1
  have hc : ∀ j u, c[j]? = some u → w.cell? (ad.add (i.toNat * 1 + j)) = some u := hc0
  obtain ⟨A0, c0, rfl, l0, g0⟩ := hK
  exact ⟨ad, A0, c0, e, by have hq := hc 0 _ rfl; rwa [Nat.mul_one, Nat.add_zero] at hq, l0, g0⟩

/-! #### struct type 40 -/
structure S40 where
  f0 : Int
  f1 : (List Int)
def z40 : S40 := ⟨(0 : Int), ([] : List Int)⟩
def k40 : Kd S40 := Kd.iso (Kd.pair (Kd.int .i64) (Kd.slice 5 (Kd.int .u8))) (fun x : S40 => (x.f0, x.f1))
theorem k40_open {w : World} {x : S40} {cs : List Value} (h : k40.K w x cs) : ∃ A1 c1, cs = [.int .i64 x.f0, .slice A1 x.f1.length c1] ∧ x.f1.length ≤ c1 ∧ (Kd.int .u8).C w A1 x.f1.length x.f1 := by
  obtain ⟨_, _, rfl, rfl, ⟨A1, c1, rfl, l1, g1⟩⟩ := h
  exact ⟨A1, c1, rfl, l1, g1⟩
theorem k40_openM {w : World} {base : Nat} {ok : Nat → Prop} {x : S40} {cs : List Value} (h : k40.M w base ok x cs) : ∃ v1, cs = [.int .i64 x.f0, v1] ∧ (Kd.int .u8).R 5 w base ok v1 x.f1 := by
  obtain ⟨_, _, rfl, rfl, ⟨v1, rfl, g1⟩⟩ := h
  exact ⟨v1, rfl, g1⟩
theorem k40_mk (w : World) (x : S40) {A1 : Option Addr} {c1 : Nat} (l1 : x.f1.length ≤ c1) (g1 : (Kd.int .u8).C w A1 x.f1.length x.f1) : k40.K w x [.int .i64 x.f0, .slice A1 x.f1.length c1] := ⟨[.int .i64 x.f0], [.slice A1 x.f1.length c1], rfl, rfl, ⟨A1, c1, rfl, l1, g1⟩⟩
theorem k40_mkM (w : World) (base : Nat) (ok : Nat → Prop) (x : S40) {v1 : Value} (g1 : (Kd.int .u8).R 5 w base ok v1 x.f1) : k40.M w base ok x [.int .i64 x.f0, v1] := ⟨[.int .i64 x.f0], [v1], rfl, rfl, ⟨v1, rfl, g1⟩⟩
theorem k40_openF {W : World} {ok : Nat → Prop} {x : S40} {cs : List Value} (h : Kd.FK k40 W ok x cs) : ∃ A1 c1, cs = [.int .i64 x.f0, .slice A1 x.f1.length c1] ∧ x.f1.length ≤ c1 ∧ Kd.F (Kd.int .u8) W ok A1 x.f1.length x.f1 := by
  obtain ⟨A1, c1, rfl, l1, _⟩ := k40_open (Kd.FK_now h)
  exact ⟨A1, c1, rfl, l1, (fun W' hW => by obtain ⟨A1_, c1_, he, l1_, g1_⟩ := k40_open (h W' hW); injection (Option.some.inj (show some (Value.slice A1 x.f1.length c1) = some (Value.slice A1_ x.f1.length c1_) from congrArg (fun l => l[1]?) he)) with ha_ _ _; rw [ha_]; exact g1_)⟩
theorem k40_mkF (W : World) (ok : Nat → Prop) (x : S40) {A1 : Option Addr} {c1 : Nat} (l1 : x.f1.length ≤ c1) (g1 : Kd.F (Kd.int .u8) W ok A1 x.f1.length x.f1) : Kd.FK k40 W ok x [.int .i64 x.f0, .slice A1 x.f1.length c1] := fun W2 hW => k40_mk W2 x l1 (g1 W2 hW)
def rd_T40 (xs : List S40) (i : Int) : S40 := xs.getD i.toNat z40
theorem at_T40 {w : World} {A : Option Addr} {n : Nat} {xs : List S40} (h : Kd.C k40 w A n xs) (i : Int) (h0 : 0 ≤ i) (h1 : i < n) : ∃ ad A1 c1, A = some ad ∧ w.cell? (ad.add (i.toNat * 2)) = some (.int .i64 (rd_T40 xs i).f0) ∧ w.cell? ⟨(ad.add (i.toNat * 2)).block, (ad.add (i.toNat * 2)).off + 1, none⟩ = some (.slice A1 (rd_T40 xs i).f1.length c1) ∧ (rd_T40 xs i).f1.length ≤ c1 ∧ (Kd.int .u8).C w A1 (rd_T40 xs i).f1.length (rd_T40 xs i).f1 := by
  obtain ⟨ad, c, e, _, hK, hc0⟩ := Kd.C_get h z40 i h0 h1
  have hc : ∀ j u, c[j]? = some u → w.cell? (ad.add (i.toNat * 2 + j)) = some u := hc0
  obtain ⟨A1, c1, rfl, l1, g1⟩ := k40_open hK
  exact ⟨ad, A1, c1, e, hc 0 _ rfl, by rw [← add_field _ _ 1 (by omega)]; exact hc 1 _ rfl, l1, g1⟩

end Go.Proofs.Ytekgienbhpknlaa.PL
end
section
namespace Go.Proofs.Ytekgienbhpknlaa.G
open Go Go.RowKit Go.Proofs.YtekgienbhpknlaaW.PrintWords Go.Proofs.YtekgienbhpknlaaW.PrintLast Go.Proofs.YtekgienbhpknlaaW.PrintMore
theorem cut_full {P : Program} (t e : TypeId) (kl kh : IntKind) {i : TypeInfo} (ht : P.underlying t = some (.slice e)) (hi : P.info? e = some i) (size : Nat) (hsz : i.size = size) (A : Option Addr) (n c : Nat) (lo hi' : Int) (h0 : 0 ≤ lo) (h1 : lo ≤ hi') (h2 : hi' ≤ n) (hc : n ≤ c) :
    ∀ W : World, (Instr.slice t (.slice A n c) (some (.int kl lo)) (some (.int kh hi')) (some (.int kh hi'))).run P W = .ok (.slice (if hi'.toNat = lo.toNat then A else A.map (·.add (lo.toNat * size))) (hi'.toNat - lo.toNat) (hi'.toNat - lo.toNat)) W := by
  intro W
  have hel : P.elem t = e := by simp [Program.elem, ht]
  have hu : P.underlying t = some (.slice (P.elem t)) := by rw [hel]; exact ht
  rw [run_slice_lhm W t A n c hu kl kh kh lo hi' hi' h0 h1 (by omega) (by omega), hel]
  simp [sizeOf, typeInfo, hi, hsz, sliced, Result.andThen]
/-- Block b holds these cells. -/
def Blk (W : World) (b : Nat) (cs : Array Value) (t : TypeId) : Prop := W.heap[b]? = some (.cells cs t (0, 0))
theorem Blk.lt {W : World} {b : Nat} {cs : Array Value} {t : TypeId} (h : Blk W b cs t) : b < W.heap.size := (Array.getElem?_eq_some_iff.1 h).1
theorem Blk.new (W : World) (cs : Array Value) (t : TypeId) : Blk (W.alloc (.cells cs t)) W.heap.size cs t := heap_alloc_new W _
theorem Blk.alloc {W : World} {b : Nat} {cs : Array Value} {t : TypeId} (h : Blk W b cs t) (o : Obj) : Blk (W.alloc o) b cs t := (Below.heap_alloc W o b h.lt).trans h
theorem Blk.below {W W' : World} {b B : Nat} {cs : Array Value} {t : TypeId} (h : Blk W b cs t) (hb : Below B W W') (hB : b < B) : Blk W' b cs t := (hb.block b hB).trans h
theorem Blk.cell {W : World} {b : Nat} {cs : Array Value} {t : TypeId} (h : Blk W b cs t) (i : Nat) (v : Value) (hv : cs[i]? = some v) : W.cell? ⟨b, i, none⟩ = some v := by
  simp [World.cell?, show W.heap[b]? = _ from h, hv]
theorem Blk.frozen {W : World} {b : Nat} {cs : Array Value} {t : TypeId} (h : Blk W b cs t) (i : Nat) : W.frozen? ⟨b, i, none⟩ = false := by simp [World.frozen?, show W.heap[b]? = _ from h]
set_option maxRecDepth 100000 in
set_option maxHeartbeats 1000000 in
theorem next_short (b : Nat) (A : Option Addr) (n c : Nat) (last : Int) (w : World) (hb : Blk w b #[.slice A n c, .int .i64 last] 59) (hn : n < 2) :
    Calls Try.prog 36 #[.pointer (some ⟨b, 0, none⟩)] w fun e w' => e = .returned (.tuple #[.agg #[.int .i64 0, .slice none 0 0], .int .i64 14]) ∧ Below w.heap.size w w' := by
  have q0 : ∀ o, (w.alloc o).cell? ⟨b, 0, none⟩ = some (.slice A n c) := fun o => (hb.alloc o).cell 0 _ rfl
  have hn' : (n : Int) < 2 := by omega
  go_enter Try.func36, Try.ntmps36
  go_wp2
  have t0 := (blk_new w (.cells #[.int .i64 0, .slice none 0 0] 40))
  refine bodyPost_ret (v := .tuple #[.agg #[.int .i64 0, .slice none 0 0], .int .i64 14]) (by simp [results, Try.results36, go_sem, Blk.cell t0]) rfl ⟨rfl, below_alloc (Below.refl _ _) _⟩
set_option maxRecDepth 100000 in
set_option maxHeartbeats 1000000 in
theorem next_order (b : Nat) (ad : Addr) (n c : Nat) (last x0 x1 : Int) (w : World) (hb : Blk w b #[.slice (some ad) n c, .int .i64 last] 59) (hn : 2 ≤ n) (h0 : w.cell? ad = some (.int .u8 x0)) (h1 : w.cell? ⟨ad.block, ad.off + 1, none⟩ = some (.int .u8 x1)) (hx0 : 0 ≤ x0) (hx1 : x0 < 256) (hy0 : 0 ≤ x1) (hy1 : x1 < 256) (ho : x0 ≤ last) :
    Calls Try.prog 36 #[.pointer (some ⟨b, 0, none⟩)] w fun e w' => e = .returned (.tuple #[.agg #[.int .i64 0, .slice none 0 0], .int .i64 13]) ∧ Below w.heap.size w w' := by
  have q0 : ∀ o, (w.alloc o).cell? ⟨b, 0, none⟩ = some (.slice (some ad) n c) := fun o => (hb.alloc o).cell 0 _ rfl
  have q2 : ∀ o o', ((w.alloc o).alloc o').cell? ⟨b, 0, none⟩ = some (.slice (some ad) n c) := fun o o' => ((hb.alloc o).alloc o').cell 0 _ rfl
  have r2 : ∀ o o', ((w.alloc o).alloc o').cell? ⟨b, 1, none⟩ = some (.int .i64 last) := fun o o' => ((hb.alloc o).alloc o').cell 1 _ rfl
  have b0 : ∀ o, (w.alloc o).cell? ad = some (.int .u8 x0) := fun o => ((below_alloc (Below.refl _ _) o).cell (World.block_lt_of_cell? w _ h0)).trans h0
  have b1 : ∀ o o', ((w.alloc o).alloc o').cell? ⟨ad.block, ad.off + 1, none⟩ = some (.int .u8 x1) := fun o o' => ((below_alloc (below_alloc (Below.refl _ _) o) o').cell (World.block_lt_of_cell? w _ h1)).trans h1
  have hn' : ¬ (n : Int) < 2 := by omega
  have hn0 : 0 < n := by omega
  have hn1 : 1 < n := by omega
  have hw0 : wrap64 x0 = x0 := by unfold wrap64; omega
  have hw1 : wrap64 x1 = x1 := by unfold wrap64; omega
  have hw2 : wrap64 (2 + x1) = 2 + x1 := by unfold wrap64; omega
  go_enter Try.func36, Try.ntmps36
  go_wp2
  try rw [hw0] at *
  try rw [hw1] at *
  have f0 := Blk.cell (blk_new (w.alloc (.cells #[.int .i64 0, .slice none 0 0] 40)) (.cells #[.int .i64 x0, .slice none 0 0] 40)) 0 _ rfl
  rw [World.size_alloc] at f0
  go_quiet (fail)
  go_wp2
  have z := (blk_alloc (blk_new w (.cells #[.int .i64 0, .slice none 0 0] 40)) (.cells #[.int .i64 x0, .slice none 0 0] 40))
  have y : Blk _ w.heap.size #[.int .i64 0, .slice none 0 0] 40 := blk_put (blk_put (blk_drewN z nq) 0 (.int .i64 0) rfl) 1 (.slice none 0 0) rfl
  have y0 := y.cell 0 _ rfl
  have y1 := y.cell 1 _ rfl
  refine bodyPost_ret (v := .tuple #[.agg #[.int .i64 0, .slice none 0 0], .int .i64 13]) (by simp [results, Try.results36, go_sem, y0, y1]) rfl ⟨rfl, ?_⟩
  exact below_set (below_set (pw_below_drewN (below_alloc (below_alloc (Below.refl _ _) _) _) nq) (Nat.le_refl _)) (Nat.le_refl _)
set_option maxRecDepth 100000 in
set_option maxHeartbeats 1000000 in
theorem next_len (b : Nat) (ad : Addr) (n c : Nat) (last x0 x1 : Int) (w : World) (hb : Blk w b #[.slice (some ad) n c, .int .i64 last] 59) (hn : 2 ≤ n) (h0 : w.cell? ad = some (.int .u8 x0)) (h1 : w.cell? ⟨ad.block, ad.off + 1, none⟩ = some (.int .u8 x1)) (hx0 : 0 ≤ x0) (hx1 : x0 < 256) (hy0 : 0 ≤ x1) (hy1 : x1 < 256) (ho : ¬ x0 ≤ last) (hl : (n : Int) < 2 + x1) :
    Calls Try.prog 36 #[.pointer (some ⟨b, 0, none⟩)] w fun e w' => e = .returned (.tuple #[.agg #[.int .i64 0, .slice none 0 0], .int .i64 14]) ∧ Below w.heap.size w w' := by
  have q0 : ∀ o, (w.alloc o).cell? ⟨b, 0, none⟩ = some (.slice (some ad) n c) := fun o => (hb.alloc o).cell 0 _ rfl
  have q2 : ∀ o o', ((w.alloc o).alloc o').cell? ⟨b, 0, none⟩ = some (.slice (some ad) n c) := fun o o' => ((hb.alloc o).alloc o').cell 0 _ rfl
  have r2 : ∀ o o', ((w.alloc o).alloc o').cell? ⟨b, 1, none⟩ = some (.int .i64 last) := fun o o' => ((hb.alloc o).alloc o').cell 1 _ rfl
  have b0 : ∀ o, (w.alloc o).cell? ad = some (.int .u8 x0) := fun o => ((below_alloc (Below.refl _ _) o).cell (World.block_lt_of_cell? w _ h0)).trans h0
  have b1 : ∀ o o', ((w.alloc o).alloc o').cell? ⟨ad.block, ad.off + 1, none⟩ = some (.int .u8 x1) := fun o o' => ((below_alloc (below_alloc (Below.refl _ _) o) o').cell (World.block_lt_of_cell? w _ h1)).trans h1
  have hn' : ¬ (n : Int) < 2 := by omega
  have hn0 : 0 < n := by omega
  have hn1 : 1 < n := by omega
  have hw0 : wrap64 x0 = x0 := by unfold wrap64; omega
  have hw1 : wrap64 x1 = x1 := by unfold wrap64; omega
  have hw2 : wrap64 (2 + x1) = 2 + x1 := by unfold wrap64; omega
  go_enter Try.func36, Try.ntmps36
  go_wp2
  try rw [hw0] at *
  try rw [hw1] at *
  have f0 := Blk.cell (blk_new (w.alloc (.cells #[.int .i64 0, .slice none 0 0] 40)) (.cells #[.int .i64 x0, .slice none 0 0] 40)) 0 _ rfl
  rw [World.size_alloc] at f0
  go_quiet (fail)
  have q3 : ∀ o o' nq, (((w.alloc o).alloc o').drewN nq).cell? ⟨b, 0, none⟩ = some (.slice (some ad) n c) := fun o o' nq => ((hb.alloc o).alloc o').cell 0 _ rfl
  go_wp2
  have z := (blk_alloc (blk_new w (.cells #[.int .i64 0, .slice none 0 0] 40)) (.cells #[.int .i64 x0, .slice none 0 0] 40))
  have y : Blk _ w.heap.size #[.int .i64 0, .slice none 0 0] 40 := blk_put (blk_put (blk_drewN z nq) 0 (.int .i64 0) rfl) 1 (.slice none 0 0) rfl
  have y0 := y.cell 0 _ rfl
  have y1 := y.cell 1 _ rfl
  refine bodyPost_ret (v := .tuple #[.agg #[.int .i64 0, .slice none 0 0], .int .i64 14]) (by simp [results, Try.results36, go_sem, y0, y1]) rfl ⟨rfl, ?_⟩
  exact below_set (below_set (pw_below_drewN (below_alloc (below_alloc (Below.refl _ _) _) _) nq) (Nat.le_refl _)) (Nat.le_refl _)
set_option maxRecDepth 100000 in
set_option maxHeartbeats 1000000 in
theorem next_ok (b : Nat) (ad : Addr) (n c : Nat) (last x0 x1 : Int) (w : World) (hb : Blk w b #[.slice (some ad) n c, .int .i64 last] 59) (hn : 2 ≤ n) (h0 : w.cell? ad = some (.int .u8 x0)) (h1 : w.cell? ⟨ad.block, ad.off + 1, none⟩ = some (.int .u8 x1)) (hx0 : 0 ≤ x0) (hx1 : x0 < 256) (hy0 : 0 ≤ x1) (hy1 : x1 < 256) (ho : ¬ x0 ≤ last) (hl : ¬ (n : Int) < 2 + x1) (hc : n ≤ c) (A2 A3 : Option Addr) (hA2 : A2 = if (2 + x1).toNat = (2 : Int).toNat then some ad else (some ad).map (·.add ((2 : Int).toNat * 1))) (hA3 : A3 = if c = (2 + x1).toNat then some ad else (some ad).map (·.add ((2 + x1).toNat * 1))) :
    Calls Try.prog 36 #[.pointer (some ⟨b, 0, none⟩)] w fun e w' => e = .returned (.tuple #[.agg #[.int .i64 x0, .slice A2 ((2 + x1).toNat - (2 : Int).toNat) ((2 + x1).toNat - (2 : Int).toNat)], .int .i64 0]) ∧ Blk w' b #[.slice A3 (n - (2 + x1).toNat) (c - (2 + x1).toNat), .int .i64 x0] 59 ∧ Below b w w' ∧ Kept w w' (fun k => k = b) := by
  have q0 : ∀ o, (w.alloc o).cell? ⟨b, 0, none⟩ = some (.slice (some ad) n c) := fun o => (hb.alloc o).cell 0 _ rfl
  have q2 : ∀ o o', ((w.alloc o).alloc o').cell? ⟨b, 0, none⟩ = some (.slice (some ad) n c) := fun o o' => ((hb.alloc o).alloc o').cell 0 _ rfl
  have r2 : ∀ o o', ((w.alloc o).alloc o').cell? ⟨b, 1, none⟩ = some (.int .i64 last) := fun o o' => ((hb.alloc o).alloc o').cell 1 _ rfl
  have b0 : ∀ o, (w.alloc o).cell? ad = some (.int .u8 x0) := fun o => ((below_alloc (Below.refl _ _) o).cell (World.block_lt_of_cell? w _ h0)).trans h0
  have b1 : ∀ o o', ((w.alloc o).alloc o').cell? ⟨ad.block, ad.off + 1, none⟩ = some (.int .u8 x1) := fun o o' => ((below_alloc (below_alloc (Below.refl _ _) o) o').cell (World.block_lt_of_cell? w _ h1)).trans h1
  have hn' : ¬ (n : Int) < 2 := by omega
  have hn0 : 0 < n := by omega
  have hn1 : 1 < n := by omega
  obtain ⟨i5, hi5, _, hsz5, _⟩ := info_parts Go.Proofs.Ytekgienbhpknlaa.PL.info5
  have hcut2 := cut_full (P := Try.prog) 24 5 .i64 .i64 Try.underlying24 hi5 1 hsz5 (some ad) n c 2 (2 + x1) (by omega) (by omega) (by omega) hc
  have hcut3 := cut_from (P := Try.prog) 24 5 .i64 Try.underlying24 hi5 1 hsz5 (some ad) n c (2 + x1) (by omega) (by omega)
  rw [← hA2] at hcut2
  rw [← hA3] at hcut3
  have hw0 : wrap64 x0 = x0 := by unfold wrap64; omega
  have hw1 : wrap64 x1 = x1 := by unfold wrap64; omega
  have hw2 : wrap64 (2 + x1) = 2 + x1 := by unfold wrap64; omega
  clear hc hy0 hA2 hA3
  go_enter Try.func36, Try.ntmps36
  go_wp2
  try rw [hw0] at *
  try rw [hw1] at *
  have f0 := Blk.cell (blk_new (w.alloc (.cells #[.int .i64 0, .slice none 0 0] 40)) (.cells #[.int .i64 x0, .slice none 0 0] 40)) 0 _ rfl
  rw [World.size_alloc] at f0
  go_quiet (fail)
  have q3 : ∀ o o' nq, (((w.alloc o).alloc o').drewN nq).cell? ⟨b, 0, none⟩ = some (.slice (some ad) n c) := fun o o' nq => ((hb.alloc o).alloc o').cell 0 _ rfl
  have q4 : ∀ o o' nq v, ((((w.alloc o).alloc o').drewN nq).setCell ⟨w.heap.size + 1, 1, none⟩ v).cell? ⟨b, 0, none⟩ = some (.slice (some ad) n c) := fun o o' nq v => Blk.cell (blk_far ((hb.alloc o).alloc o') (p := ⟨w.heap.size + 1, 1, none⟩) (by have := hb.lt; simp; omega) v) 0 _ rfl
  go_wp2
  have z0 : Blk _ b _ _ := blk_far (blk_drewN ((hb.alloc (.cells #[.int .i64 0, .slice none 0 0] 40)).alloc (.cells #[.int .i64 x0, .slice none 0 0] 40)) nq) (p := ⟨w.heap.size + 1, 1, none⟩) (by have := hb.lt; simp; omega) (.slice A2 ((2 + x1).toNat - 2) ((2 + x1).toNat - 2))
  have zr : Blk _ w.heap.size _ _ := blk_far (blk_drewN (blk_alloc (blk_new w (.cells #[.int .i64 0, .slice none 0 0] 40)) (.cells #[.int .i64 x0, .slice none 0 0] 40)) nq) (p := ⟨w.heap.size + 1, 1, none⟩) (by simp) (.slice A2 ((2 + x1).toNat - 2) ((2 + x1).toNat - 2))
  have zf : Blk _ (w.heap.size + 1) #[.int .i64 x0, .slice A2 ((2 + x1).toNat - 2) ((2 + x1).toNat - 2)] 40 := blk_put (blk_drewN (by simpa using Blk.new (w.alloc (.cells #[.int .i64 0, .slice none 0 0] 40)) #[.int .i64 x0, .slice none 0 0] 40 : Blk ((w.alloc (.cells #[.int .i64 0, .slice none 0 0] 40)).alloc (.cells #[.int .i64 x0, .slice none 0 0] 40)) (w.heap.size + 1) #[.int .i64 x0, .slice none 0 0] 40) nq) 1 (.slice A2 ((2 + x1).toNat - 2) ((2 + x1).toNat - 2)) rfl
  have HB : Below w.heap.size w _ := below_set (j := 1) (g := w.heap.size + 1) (v := .slice A2 ((2 + x1).toNat - 2) ((2 + x1).toNat - 2)) (pw_below_drewN (below_alloc (below_alloc (Below.refl w.heap.size w) (.cells #[.int .i64 0, .slice none 0 0] 40)) (.cells #[.int .i64 x0, .slice none 0 0] 40)) nq) (by omega)
  clear q0 q2 r2 b0 b1 q3 q4
  generalize ((((w.alloc (Obj.cells #[Value.int IntKind.i64 0, Value.slice none 0 0] 40)).alloc (Obj.cells #[Value.int IntKind.i64 x0, Value.slice none 0 0] 40)).drewN nq).setCell { block := w.heap.size + 1, off := 1 } (Value.slice A2 ((2 + x1).toNat - 2) ((2 + x1).toNat - 2))) = W1 at *
  have c0 := z0.cell 0 _ rfl
  have c1 := z0.cell 1 _ rfl
  have f0 := z0.frozen 0
  have f1 := z0.frozen 1
  have d0 := zf.cell 0 _ rfl
  have d1 := zf.cell 1 _ rfl
  have hbl := hb.lt
  have e0 : ∀ i v, (W1.setCell ⟨b, i, none⟩ v).cell? ⟨w.heap.size + 1, 0, none⟩ = some (.int .i64 x0) := fun i v => Blk.cell (blk_far zf (p := ⟨b, i, none⟩) (by simp; omega) v) 0 _ rfl
  go_region
  have y0 : Blk _ b #[.slice A3 (n - (2 + x1).toNat) (c - (2 + x1).toNat), .int .i64 x0] 59 := blk_drew (blk_put (blk_put z0 0 (.slice A3 (n - (2 + x1).toNat) (c - (2 + x1).toNat)) rfl) 1 (.int .i64 x0) rfl)
  have yr : Blk _ w.heap.size #[.int .i64 0, .slice none 0 0] 40 := blk_drew (blk_far (p := ⟨b, 1, none⟩) (blk_far (p := ⟨b, 0, none⟩) zr (by simp; omega) (.slice A3 (n - (2 + x1).toNat) (c - (2 + x1).toNat))) (by simp; omega) (.int .i64 x0))
  have yf : Blk _ (w.heap.size + 1) #[.int .i64 x0, .slice A2 ((2 + x1).toNat - 2) ((2 + x1).toNat - 2)] 40 := blk_drew (blk_far (p := ⟨b, 1, none⟩) (blk_far (p := ⟨b, 0, none⟩) zf (by simp; omega) (.slice A3 (n - (2 + x1).toNat) (c - (2 + x1).toNat))) (by simp; omega) (.int .i64 x0))
  have HB2 : Below b w _ := (((HB.mono (Nat.le_of_lt hbl)).setCell (p := ⟨b, 0, none⟩) (Nat.le_refl b) (.slice A3 (n - (2 + x1).toNat) (c - (2 + x1).toNat))).setCell (p := ⟨b, 1, none⟩) (Nat.le_refl b) (.int .i64 x0)).drew
  have HK : Kept w _ (fun k => k = b) := (((Kept.of_below HB (fun k => k = b)).setCell (p := ⟨b, 0, none⟩) (.inl rfl) (.slice A3 (n - (2 + x1).toNat) (c - (2 + x1).toNat))).setCell (p := ⟨b, 1, none⟩) (.inl rfl) (.int .i64 x0)).drew
  clear c0 c1 f0 f1 d0 d1 e0 z0 zr zf HB
  generalize ((W1.setCell { block := b, off := 0 } (Value.slice A3 (n - (2 + x1).toNat) (c - (2 + x1).toNat))).setCell { block := b, off := 1 } (Value.int IntKind.i64 x0)).drew = W2 at *
  have d0 := yf.cell 0 _ rfl
  have d1 := yf.cell 1 _ rfl
  have g0 := yr.frozen 0
  have g1 := yr.frozen 1
  have g2 := yr.cell 0 _ rfl
  have g3 := yr.cell 1 _ rfl
  go_wp2
  have x : Blk _ w.heap.size #[.int .i64 x0, .slice A2 ((2 + x1).toNat - 2) ((2 + x1).toNat - 2)] 40 := blk_put (blk_put yr 0 (.int .i64 x0) rfl) 1 (.slice A2 ((2 + x1).toNat - 2) ((2 + x1).toNat - 2)) rfl
  have h0 := x.cell 0 _ rfl
  have h1 := x.cell 1 _ rfl
  refine bodyPost_ret (v := .tuple #[.agg #[.int .i64 x0, .slice A2 ((2 + x1).toNat - 2) ((2 + x1).toNat - 2)], .int .i64 0]) (by simp [results, Try.results36, go_sem, h0, h1]) rfl ⟨rfl, ?_, ?_, ?_⟩
  · exact blk_far (p := ⟨w.heap.size, 1, none⟩) (blk_far (p := ⟨w.heap.size, 0, none⟩) y0 (by simp; omega) _) (by simp; omega) _
  · exact (HB2.setCell (p := ⟨w.heap.size, 0, none⟩) (Nat.le_of_lt hbl) _).setCell (p := ⟨w.heap.size, 1, none⟩) (Nat.le_of_lt hbl) _
  · exact (HK.setCell (p := ⟨w.heap.size, 0, none⟩) (.inr (Nat.le_refl _)) _).setCell (p := ⟨w.heap.size, 1, none⟩) (.inr (Nat.le_refl _)) _
end Go.Proofs.Ytekgienbhpknlaa.G
end
section
namespace Go.Proofs.Ytekgienbhpknlaa.G
open Go Go.RowKit Go.Proofs.YtekgienbhpknlaaW.PrintWords Go.Proofs.YtekgienbhpknlaaW.PrintLast Go.Proofs.YtekgienbhpknlaaW.PrintMore
def offT (tag : Int) : Nat := if tag = 1 then 14 else if tag = 2 then 11 else if tag = 3 then 1 else if tag = 4 then 0 else (tag - 3).toNat
def placesB (b : Nat) : Array Value := #[.pointer none, .pointer (some ⟨b, 14, none⟩), .pointer (some ⟨b, 11, none⟩), .pointer (some ⟨b, 1, none⟩), .pointer (some ⟨b, 0, none⟩), .pointer (some ⟨b, 2, none⟩), .pointer (some ⟨b, 3, none⟩), .pointer (some ⟨b, 4, none⟩), .pointer (some ⟨b, 5, none⟩), .pointer (some ⟨b, 6, none⟩), .pointer (some ⟨b, 7, none⟩), .pointer (some ⟨b, 8, none⟩), .pointer (some ⟨b, 9, none⟩), .pointer (some ⟨b, 10, none⟩)]
theorem placesB_at (b : Nat) (tag : Int) (h1 : 1 ≤ tag) (h2 : tag ≤ 13) : (placesB b)[tag.toNat]? = some (.pointer (some ⟨b, offT tag, none⟩)) := by
  have : tag = 1 ∨ tag = 2 ∨ tag = 3 ∨ tag = 4 ∨ tag = 5 ∨ tag = 6 ∨ tag = 7 ∨ tag = 8 ∨ tag = 9 ∨ tag = 10 ∨ tag = 11 ∨ tag = 12 ∨ tag = 13 := by omega
  rcases this with rfl | rfl | rfl | rfl | rfl | rfl | rfl | rfl | rfl | rfl | rfl | rfl | rfl <;> rfl
set_option maxRecDepth 100000 in
set_option maxHeartbeats 1000000 in
theorem place_in (b : Nat) (tag : Int) (w : World) (h1 : 1 ≤ tag) (h2 : tag ≤ 13) :
    Calls Try.prog 40 #[.pointer (some ⟨b, 0, none⟩), .int .i64 tag] w fun e w' => e = .returned (.pointer (some ⟨b, offT tag, none⟩)) ∧ Below w.heap.size w w' := by
  go_enter Try.func40, Try.ntmps40
  go_wp2
  go_region
  have hz : Blk (w.alloc (.cells (placesB b) 67)).drew w.heap.size (placesB b) 67 := blk_drew (blk_new w _)
  have c0 := hz.cell tag.toNat _ (placesB_at b tag h1 h2)
  have hB : Below w.heap.size w (w.alloc (.cells (placesB b) 67)).drew := below_drew (below_alloc (Below.refl _ _) _)
  generalize hW : (w.alloc (.cells (placesB b) 67)).drew = W1 at *
  unfold placesB at hW
  rw [hW]
  have n1 : ¬ tag < 1 := by omega
  have n2 : ¬ 13 < tag := by omega
  have n3 : 0 ≤ tag := by omega
  have n4 : tag.toNat < 14 := by omega
  go_wp2
  go_ret
  exact ⟨rfl, hB⟩
set_option maxRecDepth 100000 in
set_option maxHeartbeats 1000000 in
theorem place_out (b : Nat) (tag : Int) (w : World) (h : tag < 1 ∨ 13 < tag) :
    Calls Try.prog 40 #[.pointer (some ⟨b, 0, none⟩), .int .i64 tag] w fun e w' => e = .returned (.pointer none) ∧ Below w.heap.size w w' := by
  go_enter Try.func40, Try.ntmps40
  go_wp2
  go_region
  have hB : Below w.heap.size w (w.alloc (.cells (placesB b) 67)).drew := below_drew (below_alloc (Below.refl _ _) _)
  generalize hW : (w.alloc (.cells (placesB b) 67)).drew = W1 at *
  unfold placesB at hW
  rw [hW]
  by_cases n1 : tag < 1
  · go_wp2
    go_ret
    exact ⟨rfl, hB⟩
  · have n2 : 13 < tag := by omega
    go_wp2
    go_ret
    exact ⟨rfl, hB⟩
end Go.Proofs.Ytekgienbhpknlaa.G
end
section
namespace Go.Proofs.Ytekgienbhpknlaa.G
open Go Go.RowKit Go.Proofs.YtekgienbhpknlaaW.PrintWords Go.Proofs.YtekgienbhpknlaaW.PrintLast Go.Proofs.YtekgienbhpknlaaW.PrintMore
def betw (n l m : Int) : Bool := decide (l ≤ n ∧ n ≤ m)
theorem within_any (n l m : Int) (w : World) : Calls Try.prog 44 #[.int .i64 n, .int .i64 l, .int .i64 m] w fun e w' => e = .returned (.bool (betw n l m)) ∧ w = w' := by
  by_cases h : l ≤ n
  · rw [show betw n l m = decide (n ≤ m) by unfold betw; exact decide_eq_decide.2 (by omega)]
    go_enter Try.func44, Try.ntmps44
    go_wp2
    go_ret
    exact ⟨rfl, rfl⟩
  · rw [show betw n l m = false by unfold betw; exact decide_eq_false (by omega)]
    go_enter Try.func44, Try.ntmps44
    go_wp2
    go_ret
    exact ⟨rfl, rfl⟩
def lisB (s : Int) : Bool := decide (0 ≤ s ∧ s < 40)
theorem lis_any (s : Int) (w : World) : Calls Try.prog 51 #[.int .i64 s] w fun e w' => e = .returned (.bool (lisB s)) ∧ w = w' := by
  by_cases h : 0 ≤ s
  · rw [show lisB s = decide (s < 40) by unfold lisB; exact decide_eq_decide.2 (by omega)]
    go_enter Try.func51, Try.ntmps51
    go_wp2
    go_ret
    exact ⟨rfl, rfl⟩
  · rw [show lisB s = false by unfold lisB; exact decide_eq_false (by omega)]
    go_enter Try.func51, Try.ntmps51
    go_wp2
    go_ret
    exact ⟨rfl, rfl⟩
theorem zones_call (x0 x1 x2 x3 x4 x5 x6 x7 x8 x9 x10 : Int) (w : World) : Calls Try.prog 46 #[.agg #[.int .i64 x0, .int .i64 x1, .int .i64 x2, .int .i64 x3, .int .i64 x4, .int .i64 x5, .int .i64 x6, .int .i64 x7, .int .i64 x8, .int .i64 x9, .int .i64 x10]] w fun e w' => e = .returned (.bool (betw x2 1 6 && betw x3 x2 6)) ∧ w' = w.alloc (.cells #[.int .i64 x0, .int .i64 x1, .int .i64 x2, .int .i64 x3, .int .i64 x4, .int .i64 x5, .int .i64 x6, .int .i64 x7, .int .i64 x8, .int .i64 x9, .int .i64 x10] 72) := by
  cases hb : betw x2 1 6
  · go_enter Try.func46, Try.ntmps46
    go_wp2_with (go_at_call 44; refine (within_any _ _ _ _).mono ?_; rintro e w' ⟨rfl, rfl⟩; (try rw [hb]))
    go_ret
    exact ⟨rfl, rfl⟩
  · go_enter Try.func46, Try.ntmps46
    go_wp2_with (go_at_call 44; refine (within_any _ _ _ _).mono ?_; rintro e w' ⟨rfl, rfl⟩; (try rw [hb]))
    go_ret
    exact ⟨rfl, rfl⟩
theorem way_call (x0 x1 x2 x3 x4 x5 x6 x7 x8 x9 x10 : Int) (w : World) : Calls Try.prog 47 #[.agg #[.int .i64 x0, .int .i64 x1, .int .i64 x2, .int .i64 x3, .int .i64 x4, .int .i64 x5, .int .i64 x6, .int .i64 x7, .int .i64 x8, .int .i64 x9, .int .i64 x10]] w fun e w' => e = .returned (.bool (lisB x2 && lisB x3 && (x2 != x3))) ∧ w' = w.alloc (.cells #[.int .i64 x0, .int .i64 x1, .int .i64 x2, .int .i64 x3, .int .i64 x4, .int .i64 x5, .int .i64 x6, .int .i64 x7, .int .i64 x8, .int .i64 x9, .int .i64 x10] 72) := by
  cases hb : lisB x2 <;> cases hc : lisB x3
  all_goals
    go_enter Try.func47, Try.ntmps47
    go_wp2_with (go_at_call 51; refine (lis_any _ _).mono ?_; rintro e w' ⟨rfl, rfl⟩; (try rw [hb]); (try rw [hc]))
    go_ret
    exact ⟨rfl, rfl⟩
def usesB (x1 x9 : Int) : Bool := if x1 = 1 then x9 == 1 else if x1 = 2 then x9 == 2 else if x1 = 3 then x9 == 0 else betw x9 2 20
theorem uses_call (x0 x1 x2 x3 x4 x5 x6 x7 x8 x9 x10 : Int) (w : World) : Calls Try.prog 48 #[.agg #[.int .i64 x0, .int .i64 x1, .int .i64 x2, .int .i64 x3, .int .i64 x4, .int .i64 x5, .int .i64 x6, .int .i64 x7, .int .i64 x8, .int .i64 x9, .int .i64 x10]] w fun e w' => e = .returned (.bool (usesB x1 x9)) ∧ w' = w.alloc (.cells #[.int .i64 x0, .int .i64 x1, .int .i64 x2, .int .i64 x3, .int .i64 x4, .int .i64 x5, .int .i64 x6, .int .i64 x7, .int .i64 x8, .int .i64 x9, .int .i64 x10] 72) := by
  unfold usesB
  by_cases h1 : x1 = 1
  · rw [if_pos h1]
    subst h1
    go_enter Try.func48, Try.ntmps48
    go_wp2
    go_ret
    exact ⟨rfl, rfl⟩
  rw [if_neg h1]
  by_cases h2 : x1 = 2
  · rw [if_pos h2]
    subst h2
    go_enter Try.func48, Try.ntmps48
    go_wp2
    go_ret
    exact ⟨rfl, rfl⟩
  rw [if_neg h2]
  by_cases h3 : x1 = 3
  · rw [if_pos h3]
    subst h3
    go_enter Try.func48, Try.ntmps48
    go_wp2
    go_ret
    exact ⟨rfl, rfl⟩
  rw [if_neg h3]
  have e1 : (x1 == 1) = false := beq_eq_false_iff_ne.2 h1
  have e2 : (x1 == 2) = false := beq_eq_false_iff_ne.2 h2
  have e3 : (x1 == 3) = false := beq_eq_false_iff_ne.2 h3
  go_enter Try.func48, Try.ntmps48
  go_wp2_with (go_at_call 44; refine (within_any _ _ _ _).mono ?_; rintro e w' ⟨rfl, rfl⟩)
  go_ret
  exact ⟨rfl, rfl⟩
end Go.Proofs.Ytekgienbhpknlaa.G
end
section
namespace Go.Proofs.Ytekgienbhpknlaa.G
open Go Go.RowKit Go.Proofs.YtekgienbhpknlaaW.PrintWords Go.Proofs.YtekgienbhpknlaaW.PrintLast Go.Proofs.YtekgienbhpknlaaW.PrintMore
theorem within_eq {n l m : Int} {b : Bool} (h : betw n l m = b) (w : World) : Calls Try.prog 44 #[.int .i64 n, .int .i64 l, .int .i64 m] w fun e w' => e = .returned (.bool b) ∧ w = w' := h ▸ within_any n l m w
theorem tw64 {x : Int} (h0 : -9223372036854775808 ≤ x) (h1 : x ≤ 9223372036854775807) : wrap64 x = x := by
  unfold wrap64
  omega
def zonesB (x2 x3 : Int) : Bool := betw x2 1 6 && betw x3 x2 6
def wayB (x2 x3 : Int) : Bool := lisB x2 && lisB x3 && (x2 != x3)
def paperW (w : World) (x0 x1 x2 x3 x4 x5 x6 x7 x8 x9 x10 : Int) : World := w.alloc (.cells #[.int .i64 x0, .int .i64 x1, .int .i64 x2, .int .i64 x3, .int .i64 x4, .int .i64 x5, .int .i64 x6, .int .i64 x7, .int .i64 x8, .int .i64 x9, .int .i64 x10] 72)
theorem zones_eq {b : Bool} (x0 x1 x2 x3 x4 x5 x6 x7 x8 x9 x10 : Int) (h : zonesB x2 x3 = b) (w : World) : Calls Try.prog 46 #[.agg #[.int .i64 x0, .int .i64 x1, .int .i64 x2, .int .i64 x3, .int .i64 x4, .int .i64 x5, .int .i64 x6, .int .i64 x7, .int .i64 x8, .int .i64 x9, .int .i64 x10]] w fun e w' => e = .returned (.bool b) ∧ w' = w.alloc (.cells #[.int .i64 x0, .int .i64 x1, .int .i64 x2, .int .i64 x3, .int .i64 x4, .int .i64 x5, .int .i64 x6, .int .i64 x7, .int .i64 x8, .int .i64 x9, .int .i64 x10] 72) := h ▸ zones_call x0 x1 x2 x3 x4 x5 x6 x7 x8 x9 x10 w
theorem way_eq {b : Bool} (x0 x1 x2 x3 x4 x5 x6 x7 x8 x9 x10 : Int) (h : wayB x2 x3 = b) (w : World) : Calls Try.prog 47 #[.agg #[.int .i64 x0, .int .i64 x1, .int .i64 x2, .int .i64 x3, .int .i64 x4, .int .i64 x5, .int .i64 x6, .int .i64 x7, .int .i64 x8, .int .i64 x9, .int .i64 x10]] w fun e w' => e = .returned (.bool b) ∧ w' = w.alloc (.cells #[.int .i64 x0, .int .i64 x1, .int .i64 x2, .int .i64 x3, .int .i64 x4, .int .i64 x5, .int .i64 x6, .int .i64 x7, .int .i64 x8, .int .i64 x9, .int .i64 x10] 72) := h ▸ way_call x0 x1 x2 x3 x4 x5 x6 x7 x8 x9 x10 w
set_option maxRecDepth 100000 in
set_option maxHeartbeats 1000000 in
theorem is_no0 (x0 x1 x2 x3 x4 x5 x6 x7 x8 x9 x10 : Int) (w : World) (h0 : betw x0 1 1099511627776 = false) : Calls Try.prog 35 #[.agg #[.int .i64 x0, .int .i64 x1, .int .i64 x2, .int .i64 x3, .int .i64 x4, .int .i64 x5, .int .i64 x6, .int .i64 x7, .int .i64 x8, .int .i64 x9, .int .i64 x10]] w fun e w' => e = .returned (.bool false) ∧ Below w.heap.size w w' := by
  go_enter Try.func35, Try.ntmps35
  go_wp2_with (first
    | (go_at_call 44; refine (within_eq (by assumption) _).mono ?_; rintro e w' ⟨rfl, rfl⟩)
    | (go_at_call 46; refine (zones_eq _ _ _ _ _ _ _ _ _ _ _ (by assumption) _).mono ?_; rintro e w' ⟨rfl, rfl⟩)
    | (go_at_call 47; refine (way_eq _ _ _ _ _ _ _ _ _ _ _ (by assumption) _).mono ?_; rintro e w' ⟨rfl, rfl⟩)
    | (go_at_call 48; refine (uses_call _ _ _ _ _ _ _ _ _ _ _ _).mono ?_; rintro e w' ⟨rfl, rfl⟩)
    | go_in)
  go_ret
  exact ⟨rfl, by repeat' (first | exact Below.refl _ _ | refine Below.alloc ?_ (by first | exact Nat.le_refl _ | (simp only [World.size_alloc]; omega)) _)⟩
set_option maxRecDepth 100000 in
set_option maxHeartbeats 1000000 in
theorem is_no1 (x0 x1 x2 x3 x4 x5 x6 x7 x8 x9 x10 : Int) (w : World) (h0 : betw x0 1 1099511627776 = true) (h1 : betw x1 1 4 = false) : Calls Try.prog 35 #[.agg #[.int .i64 x0, .int .i64 x1, .int .i64 x2, .int .i64 x3, .int .i64 x4, .int .i64 x5, .int .i64 x6, .int .i64 x7, .int .i64 x8, .int .i64 x9, .int .i64 x10]] w fun e w' => e = .returned (.bool false) ∧ Below w.heap.size w w' := by
  go_enter Try.func35, Try.ntmps35
  go_wp2_with (first
    | (go_at_call 44; refine (within_eq (by assumption) _).mono ?_; rintro e w' ⟨rfl, rfl⟩)
    | (go_at_call 46; refine (zones_eq _ _ _ _ _ _ _ _ _ _ _ (by assumption) _).mono ?_; rintro e w' ⟨rfl, rfl⟩)
    | (go_at_call 47; refine (way_eq _ _ _ _ _ _ _ _ _ _ _ (by assumption) _).mono ?_; rintro e w' ⟨rfl, rfl⟩)
    | (go_at_call 48; refine (uses_call _ _ _ _ _ _ _ _ _ _ _ _).mono ?_; rintro e w' ⟨rfl, rfl⟩)
    | go_in)
  go_ret
  exact ⟨rfl, by repeat' (first | exact Below.refl _ _ | refine Below.alloc ?_ (by first | exact Nat.le_refl _ | (simp only [World.size_alloc]; omega)) _)⟩
set_option maxRecDepth 100000 in
set_option maxHeartbeats 1000000 in
theorem is_no2 (x0 x1 x2 x3 x4 x5 x6 x7 x8 x9 x10 : Int) (w : World) (h0 : betw x0 1 1099511627776 = true) (h1 : betw x1 1 4 = true) (h2 : betw x4 1 2 = false) : Calls Try.prog 35 #[.agg #[.int .i64 x0, .int .i64 x1, .int .i64 x2, .int .i64 x3, .int .i64 x4, .int .i64 x5, .int .i64 x6, .int .i64 x7, .int .i64 x8, .int .i64 x9, .int .i64 x10]] w fun e w' => e = .returned (.bool false) ∧ Below w.heap.size w w' := by
  go_enter Try.func35, Try.ntmps35
  go_wp2_with (first
    | (go_at_call 44; refine (within_eq (by assumption) _).mono ?_; rintro e w' ⟨rfl, rfl⟩)
    | (go_at_call 46; refine (zones_eq _ _ _ _ _ _ _ _ _ _ _ (by assumption) _).mono ?_; rintro e w' ⟨rfl, rfl⟩)
    | (go_at_call 47; refine (way_eq _ _ _ _ _ _ _ _ _ _ _ (by assumption) _).mono ?_; rintro e w' ⟨rfl, rfl⟩)
    | (go_at_call 48; refine (uses_call _ _ _ _ _ _ _ _ _ _ _ _).mono ?_; rintro e w' ⟨rfl, rfl⟩)
    | go_in)
  go_ret
  exact ⟨rfl, by repeat' (first | exact Below.refl _ _ | refine Below.alloc ?_ (by first | exact Nat.le_refl _ | (simp only [World.size_alloc]; omega)) _)⟩
set_option maxRecDepth 100000 in
set_option maxHeartbeats 1000000 in
theorem is_no3 (x0 x1 x2 x3 x4 x5 x6 x7 x8 x9 x10 : Int) (w : World) (h0 : betw x0 1 1099511627776 = true) (h1 : betw x1 1 4 = true) (h2 : betw x4 1 2 = true) (h3 : betw x5 0 3 = false) : Calls Try.prog 35 #[.agg #[.int .i64 x0, .int .i64 x1, .int .i64 x2, .int .i64 x3, .int .i64 x4, .int .i64 x5, .int .i64 x6, .int .i64 x7, .int .i64 x8, .int .i64 x9, .int .i64 x10]] w fun e w' => e = .returned (.bool false) ∧ Below w.heap.size w w' := by
  go_enter Try.func35, Try.ntmps35
  go_wp2_with (first
    | (go_at_call 44; refine (within_eq (by assumption) _).mono ?_; rintro e w' ⟨rfl, rfl⟩)
    | (go_at_call 46; refine (zones_eq _ _ _ _ _ _ _ _ _ _ _ (by assumption) _).mono ?_; rintro e w' ⟨rfl, rfl⟩)
    | (go_at_call 47; refine (way_eq _ _ _ _ _ _ _ _ _ _ _ (by assumption) _).mono ?_; rintro e w' ⟨rfl, rfl⟩)
    | (go_at_call 48; refine (uses_call _ _ _ _ _ _ _ _ _ _ _ _).mono ?_; rintro e w' ⟨rfl, rfl⟩)
    | go_in)
  go_ret
  exact ⟨rfl, by repeat' (first | exact Below.refl _ _ | refine Below.alloc ?_ (by first | exact Nat.le_refl _ | (simp only [World.size_alloc]; omega)) _)⟩
set_option maxRecDepth 100000 in
set_option maxHeartbeats 1000000 in
theorem is_no4 (x0 x1 x2 x3 x4 x5 x6 x7 x8 x9 x10 : Int) (w : World) (h0 : betw x0 1 1099511627776 = true) (h1 : betw x1 1 4 = true) (h2 : betw x4 1 2 = true) (h3 : betw x5 0 3 = true) (h4 : betw x6 0 999 = false) : Calls Try.prog 35 #[.agg #[.int .i64 x0, .int .i64 x1, .int .i64 x2, .int .i64 x3, .int .i64 x4, .int .i64 x5, .int .i64 x6, .int .i64 x7, .int .i64 x8, .int .i64 x9, .int .i64 x10]] w fun e w' => e = .returned (.bool false) ∧ Below w.heap.size w w' := by
  go_enter Try.func35, Try.ntmps35
  go_wp2_with (first
    | (go_at_call 44; refine (within_eq (by assumption) _).mono ?_; rintro e w' ⟨rfl, rfl⟩)
    | (go_at_call 46; refine (zones_eq _ _ _ _ _ _ _ _ _ _ _ (by assumption) _).mono ?_; rintro e w' ⟨rfl, rfl⟩)
    | (go_at_call 47; refine (way_eq _ _ _ _ _ _ _ _ _ _ _ (by assumption) _).mono ?_; rintro e w' ⟨rfl, rfl⟩)
    | (go_at_call 48; refine (uses_call _ _ _ _ _ _ _ _ _ _ _ _).mono ?_; rintro e w' ⟨rfl, rfl⟩)
    | go_in)
  go_ret
  exact ⟨rfl, by repeat' (first | exact Below.refl _ _ | refine Below.alloc ?_ (by first | exact Nat.le_refl _ | (simp only [World.size_alloc]; omega)) _)⟩
set_option maxRecDepth 100000 in
set_option maxHeartbeats 1000000 in
theorem is_no5 (x0 x1 x2 x3 x4 x5 x6 x7 x8 x9 x10 : Int) (w : World) (h0 : betw x0 1 1099511627776 = true) (h1 : betw x1 1 4 = true) (h2 : betw x4 1 2 = true) (h3 : betw x5 0 3 = true) (h4 : betw x6 0 999 = true) (h5 : betw x7 0 99999 = false) : Calls Try.prog 35 #[.agg #[.int .i64 x0, .int .i64 x1, .int .i64 x2, .int .i64 x3, .int .i64 x4, .int .i64 x5, .int .i64 x6, .int .i64 x7, .int .i64 x8, .int .i64 x9, .int .i64 x10]] w fun e w' => e = .returned (.bool false) ∧ Below w.heap.size w w' := by
  go_enter Try.func35, Try.ntmps35
  go_wp2_with (first
    | (go_at_call 44; refine (within_eq (by assumption) _).mono ?_; rintro e w' ⟨rfl, rfl⟩)
    | (go_at_call 46; refine (zones_eq _ _ _ _ _ _ _ _ _ _ _ (by assumption) _).mono ?_; rintro e w' ⟨rfl, rfl⟩)
    | (go_at_call 47; refine (way_eq _ _ _ _ _ _ _ _ _ _ _ (by assumption) _).mono ?_; rintro e w' ⟨rfl, rfl⟩)
    | (go_at_call 48; refine (uses_call _ _ _ _ _ _ _ _ _ _ _ _).mono ?_; rintro e w' ⟨rfl, rfl⟩)
    | go_in)
  go_ret
  exact ⟨rfl, by repeat' (first | exact Below.refl _ _ | refine Below.alloc ?_ (by first | exact Nat.le_refl _ | (simp only [World.size_alloc]; omega)) _)⟩
set_option maxRecDepth 100000 in
set_option maxHeartbeats 1000000 in
theorem is_no6 (x0 x1 x2 x3 x4 x5 x6 x7 x8 x9 x10 : Int) (w : World) (h0 : betw x0 1 1099511627776 = true) (h1 : betw x1 1 4 = true) (h2 : betw x4 1 2 = true) (h3 : betw x5 0 3 = true) (h4 : betw x6 0 999 = true) (h5 : betw x7 0 99999 = true) (h6 : betw x8 1 999 = false) : Calls Try.prog 35 #[.agg #[.int .i64 x0, .int .i64 x1, .int .i64 x2, .int .i64 x3, .int .i64 x4, .int .i64 x5, .int .i64 x6, .int .i64 x7, .int .i64 x8, .int .i64 x9, .int .i64 x10]] w fun e w' => e = .returned (.bool false) ∧ Below w.heap.size w w' := by
  go_enter Try.func35, Try.ntmps35
  go_wp2_with (first
    | (go_at_call 44; refine (within_eq (by assumption) _).mono ?_; rintro e w' ⟨rfl, rfl⟩)
    | (go_at_call 46; refine (zones_eq _ _ _ _ _ _ _ _ _ _ _ (by assumption) _).mono ?_; rintro e w' ⟨rfl, rfl⟩)
    | (go_at_call 47; refine (way_eq _ _ _ _ _ _ _ _ _ _ _ (by assumption) _).mono ?_; rintro e w' ⟨rfl, rfl⟩)
    | (go_at_call 48; refine (uses_call _ _ _ _ _ _ _ _ _ _ _ _).mono ?_; rintro e w' ⟨rfl, rfl⟩)
    | go_in)
  go_ret
  exact ⟨rfl, by repeat' (first | exact Below.refl _ _ | refine Below.alloc ?_ (by first | exact Nat.le_refl _ | (simp only [World.size_alloc]; omega)) _)⟩
set_option maxRecDepth 100000 in
set_option maxHeartbeats 1000000 in
theorem is_no7 (x0 x1 x2 x3 x4 x5 x6 x7 x8 x9 x10 : Int) (w : World) (h0 : betw x0 1 1099511627776 = true) (h1 : betw x1 1 4 = true) (h2 : betw x4 1 2 = true) (h3 : betw x5 0 3 = true) (h4 : betw x6 0 999 = true) (h5 : betw x7 0 99999 = true) (h6 : betw x8 1 999 = true) (h7 : 100000 < x7 + x8) : Calls Try.prog 35 #[.agg #[.int .i64 x0, .int .i64 x1, .int .i64 x2, .int .i64 x3, .int .i64 x4, .int .i64 x5, .int .i64 x6, .int .i64 x7, .int .i64 x8, .int .i64 x9, .int .i64 x10]] w fun e w' => e = .returned (.bool false) ∧ Below w.heap.size w w' := by
  have k7 := of_decide_eq_true h5
  have k8 := of_decide_eq_true h6
  have ks : wrap64 (x7 + x8) = x7 + x8 := tw64 (by omega) (by omega)
  go_enter Try.func35, Try.ntmps35
  go_wp2_with (first
    | (go_at_call 44; refine (within_eq (by assumption) _).mono ?_; rintro e w' ⟨rfl, rfl⟩)
    | (go_at_call 46; refine (zones_eq _ _ _ _ _ _ _ _ _ _ _ (by assumption) _).mono ?_; rintro e w' ⟨rfl, rfl⟩)
    | (go_at_call 47; refine (way_eq _ _ _ _ _ _ _ _ _ _ _ (by assumption) _).mono ?_; rintro e w' ⟨rfl, rfl⟩)
    | (go_at_call 48; refine (uses_call _ _ _ _ _ _ _ _ _ _ _ _).mono ?_; rintro e w' ⟨rfl, rfl⟩)
    | go_in)
  go_ret
  exact ⟨rfl, by repeat' (first | exact Below.refl _ _ | refine Below.alloc ?_ (by first | exact Nat.le_refl _ | (simp only [World.size_alloc]; omega)) _)⟩
set_option maxRecDepth 100000 in
set_option maxHeartbeats 1000000 in
theorem is_no8 (x0 x1 x2 x3 x4 x5 x6 x7 x8 x9 x10 : Int) (w : World) (h0 : betw x0 1 1099511627776 = true) (h1 : betw x1 1 4 = true) (h2 : betw x4 1 2 = true) (h3 : betw x5 0 3 = true) (h4 : betw x6 0 999 = true) (h5 : betw x7 0 99999 = true) (h6 : betw x8 1 999 = true) (h7 : x7 + x8 ≤ 100000) (h8 : betw x10 0 9 = false) : Calls Try.prog 35 #[.agg #[.int .i64 x0, .int .i64 x1, .int .i64 x2, .int .i64 x3, .int .i64 x4, .int .i64 x5, .int .i64 x6, .int .i64 x7, .int .i64 x8, .int .i64 x9, .int .i64 x10]] w fun e w' => e = .returned (.bool false) ∧ Below w.heap.size w w' := by
  have k7 := of_decide_eq_true h5
  have k8 := of_decide_eq_true h6
  have ks : wrap64 (x7 + x8) = x7 + x8 := tw64 (by omega) (by omega)
  go_enter Try.func35, Try.ntmps35
  go_wp2_with (first
    | (go_at_call 44; refine (within_eq (by assumption) _).mono ?_; rintro e w' ⟨rfl, rfl⟩)
    | (go_at_call 46; refine (zones_eq _ _ _ _ _ _ _ _ _ _ _ (by assumption) _).mono ?_; rintro e w' ⟨rfl, rfl⟩)
    | (go_at_call 47; refine (way_eq _ _ _ _ _ _ _ _ _ _ _ (by assumption) _).mono ?_; rintro e w' ⟨rfl, rfl⟩)
    | (go_at_call 48; refine (uses_call _ _ _ _ _ _ _ _ _ _ _ _).mono ?_; rintro e w' ⟨rfl, rfl⟩)
    | go_in)
  go_ret
  exact ⟨rfl, by repeat' (first | exact Below.refl _ _ | refine Below.alloc ?_ (by first | exact Nat.le_refl _ | (simp only [World.size_alloc]; omega)) _)⟩
set_option maxRecDepth 100000 in
set_option maxHeartbeats 1000000 in
theorem is_season_no (x0 x2 x3 x4 x5 x6 x7 x8 x9 x10 : Int) (w : World) (h0 : betw x0 1 1099511627776 = true) (h2 : betw x4 1 2 = true) (h3 : betw x5 0 3 = true) (h4 : betw x6 0 999 = true) (h5 : betw x7 0 99999 = true) (h6 : betw x8 1 999 = true) (h7 : x7 + x8 ≤ 100000) (h8 : betw x10 0 9 = true) (hz : zonesB x2 x3 = false) : Calls Try.prog 35 #[.agg #[.int .i64 x0, .int .i64 3, .int .i64 x2, .int .i64 x3, .int .i64 x4, .int .i64 x5, .int .i64 x6, .int .i64 x7, .int .i64 x8, .int .i64 x9, .int .i64 x10]] w fun e w' => e = .returned (.bool false) ∧ Below w.heap.size w w' := by
  have k7 := of_decide_eq_true h5
  have k8 := of_decide_eq_true h6
  have ks : wrap64 (x7 + x8) = x7 + x8 := tw64 (by omega) (by omega)
  have h1 : betw 3 1 4 = true := rfl
  go_enter Try.func35, Try.ntmps35
  go_wp2_with (first
    | (go_at_call 44; refine (within_eq (by assumption) _).mono ?_; rintro e w' ⟨rfl, rfl⟩)
    | (go_at_call 46; refine (zones_eq _ _ _ _ _ _ _ _ _ _ _ (by assumption) _).mono ?_; rintro e w' ⟨rfl, rfl⟩)
    | (go_at_call 47; refine (way_eq _ _ _ _ _ _ _ _ _ _ _ (by assumption) _).mono ?_; rintro e w' ⟨rfl, rfl⟩)
    | (go_at_call 48; refine (uses_call _ _ _ _ _ _ _ _ _ _ _ _).mono ?_; rintro e w' ⟨rfl, rfl⟩)
    | go_in)
  go_ret
  exact ⟨rfl, by repeat' (first | exact Below.refl _ _ | refine Below.alloc ?_ (by first | exact Nat.le_refl _ | (simp only [World.size_alloc]; omega)) _)⟩
set_option maxRecDepth 100000 in
set_option maxHeartbeats 1000000 in
theorem is_season_yes (x0 x2 x3 x4 x5 x6 x7 x8 x9 x10 : Int) (w : World) (h0 : betw x0 1 1099511627776 = true) (h2 : betw x4 1 2 = true) (h3 : betw x5 0 3 = true) (h4 : betw x6 0 999 = true) (h5 : betw x7 0 99999 = true) (h6 : betw x8 1 999 = true) (h7 : x7 + x8 ≤ 100000) (h8 : betw x10 0 9 = true) (hz : zonesB x2 x3 = true) : Calls Try.prog 35 #[.agg #[.int .i64 x0, .int .i64 3, .int .i64 x2, .int .i64 x3, .int .i64 x4, .int .i64 x5, .int .i64 x6, .int .i64 x7, .int .i64 x8, .int .i64 x9, .int .i64 x10]] w fun e w' => e = .returned (.bool (usesB 3 x9)) ∧ Below w.heap.size w w' := by
  have k7 := of_decide_eq_true h5
  have k8 := of_decide_eq_true h6
  have ks : wrap64 (x7 + x8) = x7 + x8 := tw64 (by omega) (by omega)
  have h1 : betw 3 1 4 = true := rfl
  go_enter Try.func35, Try.ntmps35
  go_wp2_with (first
    | (go_at_call 44; refine (within_eq (by assumption) _).mono ?_; rintro e w' ⟨rfl, rfl⟩)
    | (go_at_call 46; refine (zones_eq _ _ _ _ _ _ _ _ _ _ _ (by assumption) _).mono ?_; rintro e w' ⟨rfl, rfl⟩)
    | (go_at_call 47; refine (way_eq _ _ _ _ _ _ _ _ _ _ _ (by assumption) _).mono ?_; rintro e w' ⟨rfl, rfl⟩)
    | (go_at_call 48; refine (uses_call _ _ _ _ _ _ _ _ _ _ _ _).mono ?_; rintro e w' ⟨rfl, rfl⟩)
    | go_in)
  go_ret
  exact ⟨rfl, by repeat' (first | exact Below.refl _ _ | refine Below.alloc ?_ (by first | exact Nat.le_refl _ | (simp only [World.size_alloc]; omega)) _)⟩
set_option maxRecDepth 100000 in
set_option maxHeartbeats 1000000 in
theorem is_other_no (x0 x1 x2 x3 x4 x5 x6 x7 x8 x9 x10 : Int) (w : World) (h0 : betw x0 1 1099511627776 = true) (h1 : betw x1 1 4 = true) (h2 : betw x4 1 2 = true) (h3 : betw x5 0 3 = true) (h4 : betw x6 0 999 = true) (h5 : betw x7 0 99999 = true) (h6 : betw x8 1 999 = true) (h7 : x7 + x8 ≤ 100000) (h8 : betw x10 0 9 = true) (hk : x1 ≠ 3) (hz : wayB x2 x3 = false) : Calls Try.prog 35 #[.agg #[.int .i64 x0, .int .i64 x1, .int .i64 x2, .int .i64 x3, .int .i64 x4, .int .i64 x5, .int .i64 x6, .int .i64 x7, .int .i64 x8, .int .i64 x9, .int .i64 x10]] w fun e w' => e = .returned (.bool false) ∧ Below w.heap.size w w' := by
  have k7 := of_decide_eq_true h5
  have k8 := of_decide_eq_true h6
  have ks : wrap64 (x7 + x8) = x7 + x8 := tw64 (by omega) (by omega)
  have e3 : (x1 == 3) = false := beq_eq_false_iff_ne.2 hk
  go_enter Try.func35, Try.ntmps35
  go_wp2_with (first
    | (go_at_call 44; refine (within_eq (by assumption) _).mono ?_; rintro e w' ⟨rfl, rfl⟩)
    | (go_at_call 46; refine (zones_eq _ _ _ _ _ _ _ _ _ _ _ (by assumption) _).mono ?_; rintro e w' ⟨rfl, rfl⟩)
    | (go_at_call 47; refine (way_eq _ _ _ _ _ _ _ _ _ _ _ (by assumption) _).mono ?_; rintro e w' ⟨rfl, rfl⟩)
    | (go_at_call 48; refine (uses_call _ _ _ _ _ _ _ _ _ _ _ _).mono ?_; rintro e w' ⟨rfl, rfl⟩)
    | go_in)
  go_ret
  exact ⟨rfl, by repeat' (first | exact Below.refl _ _ | refine Below.alloc ?_ (by first | exact Nat.le_refl _ | (simp only [World.size_alloc]; omega)) _)⟩
set_option maxRecDepth 100000 in
set_option maxHeartbeats 1000000 in
theorem is_other_yes (x0 x1 x2 x3 x4 x5 x6 x7 x8 x9 x10 : Int) (w : World) (h0 : betw x0 1 1099511627776 = true) (h1 : betw x1 1 4 = true) (h2 : betw x4 1 2 = true) (h3 : betw x5 0 3 = true) (h4 : betw x6 0 999 = true) (h5 : betw x7 0 99999 = true) (h6 : betw x8 1 999 = true) (h7 : x7 + x8 ≤ 100000) (h8 : betw x10 0 9 = true) (hk : x1 ≠ 3) (hz : wayB x2 x3 = true) : Calls Try.prog 35 #[.agg #[.int .i64 x0, .int .i64 x1, .int .i64 x2, .int .i64 x3, .int .i64 x4, .int .i64 x5, .int .i64 x6, .int .i64 x7, .int .i64 x8, .int .i64 x9, .int .i64 x10]] w fun e w' => e = .returned (.bool (usesB x1 x9)) ∧ Below w.heap.size w w' := by
  have k7 := of_decide_eq_true h5
  have k8 := of_decide_eq_true h6
  have ks : wrap64 (x7 + x8) = x7 + x8 := tw64 (by omega) (by omega)
  have e3 : (x1 == 3) = false := beq_eq_false_iff_ne.2 hk
  go_enter Try.func35, Try.ntmps35
  go_wp2_with (first
    | (go_at_call 44; refine (within_eq (by assumption) _).mono ?_; rintro e w' ⟨rfl, rfl⟩)
    | (go_at_call 46; refine (zones_eq _ _ _ _ _ _ _ _ _ _ _ (by assumption) _).mono ?_; rintro e w' ⟨rfl, rfl⟩)
    | (go_at_call 47; refine (way_eq _ _ _ _ _ _ _ _ _ _ _ (by assumption) _).mono ?_; rintro e w' ⟨rfl, rfl⟩)
    | (go_at_call 48; refine (uses_call _ _ _ _ _ _ _ _ _ _ _ _).mono ?_; rintro e w' ⟨rfl, rfl⟩)
    | go_in)
  go_ret
  exact ⟨rfl, by repeat' (first | exact Below.refl _ _ | refine Below.alloc ?_ (by first | exact Nat.le_refl _ | (simp only [World.size_alloc]; omega)) _)⟩
/-- Is it right? -/
def isB (x0 x1 x2 x3 x4 x5 x6 x7 x8 x9 x10 : Int) : Bool := betw x0 1 1099511627776 && betw x1 1 4 && betw x4 1 2 && betw x5 0 3 && betw x6 0 999 && betw x7 0 99999 && betw x8 1 999 && decide (x7 + x8 ≤ 100000) && betw x10 0 9 && (if x1 = 3 then zonesB x2 x3 else wayB x2 x3) && usesB x1 x9
theorem is_of (x0 x1 x2 x3 x4 x5 x6 x7 x8 x9 x10 : Int) (w : World) {b : Bool} (h : isB x0 x1 x2 x3 x4 x5 x6 x7 x8 x9 x10 = b) (hc : Calls Try.prog 35 #[.agg #[.int .i64 x0, .int .i64 x1, .int .i64 x2, .int .i64 x3, .int .i64 x4, .int .i64 x5, .int .i64 x6, .int .i64 x7, .int .i64 x8, .int .i64 x9, .int .i64 x10]] w fun e w' => e = .returned (.bool b) ∧ Below w.heap.size w w') : Calls Try.prog 35 #[.agg #[.int .i64 x0, .int .i64 x1, .int .i64 x2, .int .i64 x3, .int .i64 x4, .int .i64 x5, .int .i64 x6, .int .i64 x7, .int .i64 x8, .int .i64 x9, .int .i64 x10]] w fun e w' => e = .returned (.bool (isB x0 x1 x2 x3 x4 x5 x6 x7 x8 x9 x10)) ∧ Below w.heap.size w w' := h ▸ hc
theorem is_any (x0 x1 x2 x3 x4 x5 x6 x7 x8 x9 x10 : Int) (w : World) : Calls Try.prog 35 #[.agg #[.int .i64 x0, .int .i64 x1, .int .i64 x2, .int .i64 x3, .int .i64 x4, .int .i64 x5, .int .i64 x6, .int .i64 x7, .int .i64 x8, .int .i64 x9, .int .i64 x10]] w fun e w' => e = .returned (.bool (isB x0 x1 x2 x3 x4 x5 x6 x7 x8 x9 x10)) ∧ Below w.heap.size w w' := by
  cases h0 : betw x0 1 1099511627776
  · exact is_of x0 x1 x2 x3 x4 x5 x6 x7 x8 x9 x10 w (by unfold isB; rw [h0]; rfl) (is_no0 x0 x1 x2 x3 x4 x5 x6 x7 x8 x9 x10 w h0)
  cases h1 : betw x1 1 4
  · exact is_of x0 x1 x2 x3 x4 x5 x6 x7 x8 x9 x10 w (by unfold isB; rw [h0, h1]; rfl) (is_no1 x0 x1 x2 x3 x4 x5 x6 x7 x8 x9 x10 w h0 h1)
  cases h2 : betw x4 1 2
  · exact is_of x0 x1 x2 x3 x4 x5 x6 x7 x8 x9 x10 w (by unfold isB; rw [h0, h1, h2]; rfl) (is_no2 x0 x1 x2 x3 x4 x5 x6 x7 x8 x9 x10 w h0 h1 h2)
  cases h3 : betw x5 0 3
  · exact is_of x0 x1 x2 x3 x4 x5 x6 x7 x8 x9 x10 w (by unfold isB; rw [h0, h1, h2, h3]; rfl) (is_no3 x0 x1 x2 x3 x4 x5 x6 x7 x8 x9 x10 w h0 h1 h2 h3)
  cases h4 : betw x6 0 999
  · exact is_of x0 x1 x2 x3 x4 x5 x6 x7 x8 x9 x10 w (by unfold isB; rw [h0, h1, h2, h3, h4]; rfl) (is_no4 x0 x1 x2 x3 x4 x5 x6 x7 x8 x9 x10 w h0 h1 h2 h3 h4)
  cases h5 : betw x7 0 99999
  · exact is_of x0 x1 x2 x3 x4 x5 x6 x7 x8 x9 x10 w (by unfold isB; rw [h0, h1, h2, h3, h4, h5]; rfl) (is_no5 x0 x1 x2 x3 x4 x5 x6 x7 x8 x9 x10 w h0 h1 h2 h3 h4 h5)
  cases h6 : betw x8 1 999
  · exact is_of x0 x1 x2 x3 x4 x5 x6 x7 x8 x9 x10 w (by unfold isB; rw [h0, h1, h2, h3, h4, h5, h6]; rfl) (is_no6 x0 x1 x2 x3 x4 x5 x6 x7 x8 x9 x10 w h0 h1 h2 h3 h4 h5 h6)
  by_cases h7' : 100000 < x7 + x8
  · have h7 := h7'
    exact is_of x0 x1 x2 x3 x4 x5 x6 x7 x8 x9 x10 w (by unfold isB; rw [h0, h1, h2, h3, h4, h5, h6, decide_eq_false (by omega)]; rfl) (is_no7 x0 x1 x2 x3 x4 x5 x6 x7 x8 x9 x10 w h0 h1 h2 h3 h4 h5 h6 h7)
  have h7 : x7 + x8 ≤ 100000 := by omega
  cases h8 : betw x10 0 9
  · exact is_of x0 x1 x2 x3 x4 x5 x6 x7 x8 x9 x10 w (by unfold isB; rw [h0, h1, h2, h3, h4, h5, h6, decide_eq_true h7, h8]; rfl) (is_no8 x0 x1 x2 x3 x4 x5 x6 x7 x8 x9 x10 w h0 h1 h2 h3 h4 h5 h6 h7 h8)
  by_cases hk : x1 = 3
  · subst hk
    cases hz : zonesB x2 x3
    · exact is_of _ _ _ _ _ _ _ _ _ _ _ w (by unfold isB; rw [h0, h1, h2, h3, h4, h5, h6, decide_eq_true h7, h8, if_pos rfl, hz]; rfl) (is_season_no x0 x2 x3 x4 x5 x6 x7 x8 x9 x10 w h0 h2 h3 h4 h5 h6 h7 h8 hz)
    · exact is_of _ _ _ _ _ _ _ _ _ _ _ w (by unfold isB; rw [h0, h1, h2, h3, h4, h5, h6, decide_eq_true h7, h8, if_pos rfl, hz]; rfl) (is_season_yes x0 x2 x3 x4 x5 x6 x7 x8 x9 x10 w h0 h2 h3 h4 h5 h6 h7 h8 hz)
  · cases hz : wayB x2 x3
    · exact is_of _ _ _ _ _ _ _ _ _ _ _ w (by unfold isB; rw [h0, h1, h2, h3, h4, h5, h6, decide_eq_true h7, h8, if_neg hk, hz]; rfl) (is_other_no x0 x1 x2 x3 x4 x5 x6 x7 x8 x9 x10 w h0 h1 h2 h3 h4 h5 h6 h7 h8 hk hz)
    · exact is_of _ _ _ _ _ _ _ _ _ _ _ w (by unfold isB; rw [h0, h1, h2, h3, h4, h5, h6, decide_eq_true h7, h8, if_neg hk, hz]; rfl) (is_other_yes x0 x1 x2 x3 x4 x5 x6 x7 x8 x9 x10 w h0 h1 h2 h3 h4 h5 h6 h7 h8 hk hz)
end Go.Proofs.Ytekgienbhpknlaa.G
end
section
namespace Go.Proofs.Ytekgienbhpknlaa.PL
open Go.RowKit Go.Proofs.YtekgienbhpknlaaW.PrintWords Go.Proofs.YtekgienbhpknlaaW.PrintLast Go.Proofs.YtekgienbhpknlaaW.PrintMore
attribute [local go_sem] max2_int min2_int max_two min_two max_three min_three max_four min_four   -- for this text's walks alone
set_option linter.unusedVariables false
set_option linter.unusedSimpArgs false

/-! ### tlv_Is: function 19 -/
def tlv_Is.l0 : Nat → Int → List (S40) → Int → Int → Option (Bool)
  | 0, _, _, _, _ => none
  | k + 1, x3, x6, x7, x8 => if x8 < x7 then (if 0 ≤ x8 then (if x8 < (x6.length : Int) then (if ((rd_T40 x6 x8).f0) ≤ x3 then (some false) else (if ((rd_T40 x6 x8).f0) > 255 then (some false) else (if (((rd_T40 x6 x8).f1).length : Int) > 255 then (some false) else (tlv_Is.l0 k ((rd_T40 x6 x8).f0) x6 x7 (wrap64 (x8 + 1)))))) else (none)) else (none)) else (some true)
def tlv_Is.f (k : Nat) (l0 : List (S40)) : Option (Bool) := tlv_Is.l0 k 0 l0 (l0.length : Int) 0
theorem tlv_Is.mono_l : ∀ k, (∀ y0 y1 y2 y3, LeO (tlv_Is.l0 k y0 y1 y2 y3) (tlv_Is.l0 (k + 1) y0 y1 y2 y3))
  | 0 => fun _ _ _ _ r h => by simp [tlv_Is.l0] at h
  | k + 1 => by
    have ih0 := tlv_Is.mono_l k
    · intro y0 y1 y2 y3
      unfold tlv_Is.l0
      repeat' first
      | (with_reducible exact ih0 _ _ _ _)
      | (with_reducible exact LeO.refl _)
      | (with_reducible exact LeO.none _)
      | (with_reducible refine LeO.ite ?_ ?_)
      | (with_reducible refine LeO.bind ?_ (fun _ => ?_))
      | exact ih0 _ _ _ _
      | exact LeO.none _
      | refine LeO.ite ?_ ?_
      | refine LeO.bind ?_ (fun _ => ?_)
theorem tlv_Is.mono : ∀ a0 k, LeO (tlv_Is.f k a0) (tlv_Is.f (k + 1) a0) := by
  intro a0 k
  have ih0 := tlv_Is.mono_l k
  unfold tlv_Is.f
  repeat' first
      | (with_reducible exact ih0 _ _ _ _)
      | (with_reducible exact LeO.refl _)
      | (with_reducible exact LeO.none _)
      | (with_reducible refine LeO.ite ?_ ?_)
      | (with_reducible refine LeO.bind ?_ (fun _ => ?_))
      | exact ih0 _ _ _ _
      | exact LeO.none _
      | refine LeO.ite ?_ ?_
      | refine LeO.bind ?_ (fun _ => ?_)
set_option maxHeartbeats 8000000 in
set_option maxRecDepth 100000 in
theorem tlv_Is.calls (k : Nat) (A0 : Option Addr) (c0 : Nat) (l0 : List (S40)) (r : Bool) (w : World) (hr0 : Kd.C k40 w A0 l0.length l0) (hc0 : l0.length ≤ c0) (h : tlv_Is.f k l0 = some r) :
    Calls Try.prog 19 #[.slice A0 l0.length c0] w fun e w' => e = .returned (.bool r) ∧ Below w.heap.size w w' := by
  have hu40 := Try.underlying40
  have HR0 := Aside0.mk hr0
  have HC0 := Aside0.mk hc0
  clear hr0 hc0
  have HB := Aside0.mk (Below.refl w.heap.size w)
  have H : (tlv_Is.l0 k 0 l0 (l0.length : Int) 0) = some r := h
  clear h
  have H' := Aside0.mk H
  clear H
  go_enter Try.func19, Try.ntmps19
  go_wp2
  go_loopg [3, 8] k (fun kq v3 v8 w' => ∃ (x3_1 : Int) (x8_1 : Int), v3 = .int .i64 x3_1 ∧ v8 = .int .i64 x8_1 ∧ Aside0 (tlv_Is.l0 kq x3_1 l0 (l0.length : Int) x8_1 = some r) ∧ Aside0 (kq ≤ k) ∧ Aside0 (Below w.heap.size w w'))
  case atStart => exact ⟨(0), (0), (by first | rfl | (simp; done) | (simp [*]; done)), (by first | rfl | (simp; done) | (simp [*]; done)), H', ⟨Nat.le_refl _⟩, ⟨by repeat (first | (with_reducible first | exact HB.out | apply below_alloc | apply pw_below_drewN | apply below_drew1) | exact HB.out)⟩⟩
  case round =>
    clear H'
    try clear c1
    obtain ⟨x3_1, x8_1, rfl, rfl, HA, HK1, HB⟩ := hrel
    cases gk with
    | zero => exact absurd HA.out (by simp [tlv_Is.l0])
    | succ k1 =>
      have H := HA.out
      clear HA
      simp only [tlv_Is.l0] at H
      by_cases c2 : x8_1 < (l0.length : Int)
      · rw [if_pos c2] at H
        have c2b0 : decide (x8_1 < (l0.length : Int)) = true := decide_eq_true c2
        clear c2
        by_cases c3 : 0 ≤ x8_1
        · rw [if_pos c3] at H
          have c3b0 : decide (0 ≤ x8_1) = true := decide_eq_true c3
          clear c3
          by_cases c4 : x8_1 < (l0.length : Int)
          · rw [if_pos c4] at H
            have c4b0 : decide (x8_1 < (l0.length : Int)) = true := decide_eq_true c4
            clear c4
            by_cases c5 : ((rd_T40 l0 x8_1).f0) ≤ x3_1
            · rw [if_pos c5] at H
              have c5b0 : decide (((rd_T40 l0 x8_1).f0) ≤ x3_1) = true := decide_eq_true c5
              clear c5
              obtain rfl := Option.some.inj H
              have p101 : 0 ≤ (x8_1 : Int) := of_decide_eq_true (by first | (with_reducible assumption) | assumption)
              have q101 : x8_1 < (l0.length : Int) := of_decide_eq_true (by first | (with_reducible assumption) | assumption)
              obtain ⟨ad101, A101_1, c101_1, e101, hx101_0, hx101_1, hl101_1, hi101_1⟩ := at_T40 HR0.out x8_1 p101 q101
              cases e101
              replace hx101_0 := (HB.out.cell (World.block_lt_of_cell? w _ hx101_0)).trans hx101_0
              replace hx101_1 := (HB.out.cell (World.block_lt_of_cell? w _ hx101_1)).trans hx101_1
              have HR101_1 := Aside0.mk hi101_1
              have HC101_1 := Aside0.mk hl101_1
              clear hi101_1 hl101_1
              replace p101 := eq_true p101
              replace q101 := eq_true q101
              go_wp2_with (first | ((with_reducible refine gate_dst (N := 5) rfl ?_); (try (refine gate_guard (by rfl) ?_; dsimp only)); refine box_event ?hg (N := 5) ?hd (cs := #[.int .i64 0, .slice none 0 0]) (t := 40) ?hr ?_; (case hd => rfl); (case hg => rfl); (case hr => first | (go_simp; done) | (go_simp; rfl)); intro gb102 hg w6 hbox hb; have n0_ := Aside0.mk (below_step (by repeat (first | (with_reducible first | exact HB.out | apply below_alloc | apply pw_below_drewN | apply below_drew1) | exact HB.out)) hb); have n1_ := Aside0.mk (hbox); have n2_ := Aside0.mk ((by rw [hg]; exact (below_size (by repeat (first | (with_reducible first | exact HB.out | apply below_alloc | apply pw_below_drewN | apply below_drew1) | exact HB.out))) : w.heap.size ≤ gb102)); have n3_ := Aside0.mk ((by rw [hg]; exact (below_size (by repeat (first | (with_reducible first | exact HB.out | apply below_alloc | apply pw_below_drewN | apply below_drew1) | exact HB.out))) : w.heap.size ≤ gb102)); clear HB; have HB := n0_; have BK102 := n1_; have GW102 := n2_; have GE102 := n3_; clear n0_ n1_ n2_ n3_; clear hb hbox hg; have hcz7_0 : w6.cell? ⟨gb102, 0, none⟩ = some (.int .i64 0) := (blk_cell BK102.out 0).trans rfl; have hcz7_1 : w6.cell? ⟨gb102, 1, none⟩ = some (.slice none 0 0) := (blk_cell BK102.out 1).trans rfl; have hfz7_0 := blk_frozen BK102.out 0; have hfz7_1 := blk_frozen BK102.out 1))
              go_ret
              exact ⟨by first | rfl | (simp [errW_none, errW_some] <;> rfl) | (simp [*, errW_none, errW_some] <;> rfl), by repeat (first | (with_reducible first | exact HB.out | apply below_alloc | apply pw_below_drewN | apply below_drew1 | refine below_set ?_ GE102.out) | exact HB.out)⟩
            · rw [if_neg c5] at H
              have c5b0 : decide (((rd_T40 l0 x8_1).f0) ≤ x3_1) = false := decide_eq_false c5
              clear c5
              by_cases c8 : ((rd_T40 l0 x8_1).f0) > 255
              · rw [if_pos c8] at H
                have c8b0 : decide (255 < ((rd_T40 l0 x8_1).f0)) = true := decide_eq_true c8
                clear c8
                obtain rfl := Option.some.inj H
                have p101 : 0 ≤ (x8_1 : Int) := of_decide_eq_true (by first | (with_reducible assumption) | assumption)
                have q101 : x8_1 < (l0.length : Int) := of_decide_eq_true (by first | (with_reducible assumption) | assumption)
                obtain ⟨ad101, A101_1, c101_1, e101, hx101_0, hx101_1, hl101_1, hi101_1⟩ := at_T40 HR0.out x8_1 p101 q101
                cases e101
                replace hx101_0 := (HB.out.cell (World.block_lt_of_cell? w _ hx101_0)).trans hx101_0
                replace hx101_1 := (HB.out.cell (World.block_lt_of_cell? w _ hx101_1)).trans hx101_1
                have HR101_1 := Aside0.mk hi101_1
                have HC101_1 := Aside0.mk hl101_1
                clear hi101_1 hl101_1
                replace p101 := eq_true p101
                replace q101 := eq_true q101
                go_wp2_with (first | ((with_reducible refine gate_dst (N := 5) rfl ?_); (try (refine gate_guard (by rfl) ?_; dsimp only)); refine box_event ?hg (N := 5) ?hd (cs := #[.int .i64 0, .slice none 0 0]) (t := 40) ?hr ?_; (case hd => rfl); (case hg => rfl); (case hr => first | (go_simp; done) | (go_simp; rfl)); intro gb102 hg w9 hbox hb; have n0_ := Aside0.mk (below_step (by repeat (first | (with_reducible first | exact HB.out | apply below_alloc | apply pw_below_drewN | apply below_drew1) | exact HB.out)) hb); have n1_ := Aside0.mk (hbox); have n2_ := Aside0.mk ((by rw [hg]; exact (below_size (by repeat (first | (with_reducible first | exact HB.out | apply below_alloc | apply pw_below_drewN | apply below_drew1) | exact HB.out))) : w.heap.size ≤ gb102)); have n3_ := Aside0.mk ((by rw [hg]; exact (below_size (by repeat (first | (with_reducible first | exact HB.out | apply below_alloc | apply pw_below_drewN | apply below_drew1) | exact HB.out))) : w.heap.size ≤ gb102)); clear HB; have HB := n0_; have BK102 := n1_; have GW102 := n2_; have GE102 := n3_; clear n0_ n1_ n2_ n3_; clear hb hbox hg; have hcz10_0 : w9.cell? ⟨gb102, 0, none⟩ = some (.int .i64 0) := (blk_cell BK102.out 0).trans rfl; have hcz10_1 : w9.cell? ⟨gb102, 1, none⟩ = some (.slice none 0 0) := (blk_cell BK102.out 1).trans rfl; have hfz10_0 := blk_frozen BK102.out 0; have hfz10_1 := blk_frozen BK102.out 1))
                go_ret
                exact ⟨by first | rfl | (simp [errW_none, errW_some] <;> rfl) | (simp [*, errW_none, errW_some] <;> rfl), by repeat (first | (with_reducible first | exact HB.out | apply below_alloc | apply pw_below_drewN | apply below_drew1 | refine below_set ?_ GE102.out) | exact HB.out)⟩
              · rw [if_neg c8] at H
                have c8b0 : decide (255 < ((rd_T40 l0 x8_1).f0)) = false := decide_eq_false c8
                clear c8
                by_cases c11 : (((rd_T40 l0 x8_1).f1).length : Int) > 255
                · rw [if_pos c11] at H
                  have c11b0 : decide (255 < (((rd_T40 l0 x8_1).f1).length : Int)) = true := decide_eq_true c11
                  have c11b1 : decide (255 < ((rd_T40 l0 x8_1).f1).length) = true := decide_eq_true (by omega)
                  clear c11
                  obtain rfl := Option.some.inj H
                  have p101 : 0 ≤ (x8_1 : Int) := of_decide_eq_true (by first | (with_reducible assumption) | assumption)
                  have q101 : x8_1 < (l0.length : Int) := of_decide_eq_true (by first | (with_reducible assumption) | assumption)
                  obtain ⟨ad101, A101_1, c101_1, e101, hx101_0, hx101_1, hl101_1, hi101_1⟩ := at_T40 HR0.out x8_1 p101 q101
                  cases e101
                  replace hx101_0 := (HB.out.cell (World.block_lt_of_cell? w _ hx101_0)).trans hx101_0
                  replace hx101_1 := (HB.out.cell (World.block_lt_of_cell? w _ hx101_1)).trans hx101_1
                  have HR101_1 := Aside0.mk hi101_1
                  have HC101_1 := Aside0.mk hl101_1
                  clear hi101_1 hl101_1
                  replace p101 := eq_true p101
                  replace q101 := eq_true q101
                  go_wp2_with (first | ((with_reducible refine gate_dst (N := 5) rfl ?_); (try (refine gate_guard (by rfl) ?_; dsimp only)); refine box_event ?hg (N := 5) ?hd (cs := #[.int .i64 0, .slice none 0 0]) (t := 40) ?hr ?_; (case hd => rfl); (case hg => rfl); (case hr => first | (go_simp; done) | (go_simp; rfl)); intro gb102 hg w12 hbox hb; have n0_ := Aside0.mk (below_step (by repeat (first | (with_reducible first | exact HB.out | apply below_alloc | apply pw_below_drewN | apply below_drew1) | exact HB.out)) hb); have n1_ := Aside0.mk (hbox); have n2_ := Aside0.mk ((by rw [hg]; exact (below_size (by repeat (first | (with_reducible first | exact HB.out | apply below_alloc | apply pw_below_drewN | apply below_drew1) | exact HB.out))) : w.heap.size ≤ gb102)); have n3_ := Aside0.mk ((by rw [hg]; exact (below_size (by repeat (first | (with_reducible first | exact HB.out | apply below_alloc | apply pw_below_drewN | apply below_drew1) | exact HB.out))) : w.heap.size ≤ gb102)); clear HB; have HB := n0_; have BK102 := n1_; have GW102 := n2_; have GE102 := n3_; clear n0_ n1_ n2_ n3_; clear hb hbox hg; have hcz13_0 : w12.cell? ⟨gb102, 0, none⟩ = some (.int .i64 0) := (blk_cell BK102.out 0).trans rfl; have hcz13_1 : w12.cell? ⟨gb102, 1, none⟩ = some (.slice none 0 0) := (blk_cell BK102.out 1).trans rfl; have hfz13_0 := blk_frozen BK102.out 0; have hfz13_1 := blk_frozen BK102.out 1))
                  go_ret
                  exact ⟨by first | rfl | (simp [errW_none, errW_some] <;> rfl) | (simp [*, errW_none, errW_some] <;> rfl), by repeat (first | (with_reducible first | exact HB.out | apply below_alloc | apply pw_below_drewN | apply below_drew1 | refine below_set ?_ GE102.out) | exact HB.out)⟩
                · rw [if_neg c11] at H
                  have c11b0 : decide (255 < (((rd_T40 l0 x8_1).f1).length : Int)) = false := decide_eq_false c11
                  have c11b1 : decide (255 < ((rd_T40 l0 x8_1).f1).length) = false := decide_eq_false (by omega)
                  clear c11
                  have H' := Aside0.mk H
                  clear H
                  have p101 : 0 ≤ (x8_1 : Int) := of_decide_eq_true (by first | (with_reducible assumption) | assumption)
                  have q101 : x8_1 < (l0.length : Int) := of_decide_eq_true (by first | (with_reducible assumption) | assumption)
                  obtain ⟨ad101, A101_1, c101_1, e101, hx101_0, hx101_1, hl101_1, hi101_1⟩ := at_T40 HR0.out x8_1 p101 q101
                  cases e101
                  replace hx101_0 := (HB.out.cell (World.block_lt_of_cell? w _ hx101_0)).trans hx101_0
                  replace hx101_1 := (HB.out.cell (World.block_lt_of_cell? w _ hx101_1)).trans hx101_1
                  have HR101_1 := Aside0.mk hi101_1
                  have HC101_1 := Aside0.mk hl101_1
                  clear hi101_1 hl101_1
                  replace p101 := eq_true p101
                  replace q101 := eq_true q101
                  go_wp2_with (first | ((with_reducible refine gate_dst (N := 5) rfl ?_); (try (refine gate_guard (by rfl) ?_; dsimp only)); refine box_event ?hg (N := 5) ?hd (cs := #[.int .i64 0, .slice none 0 0]) (t := 40) ?hr ?_; (case hd => rfl); (case hg => rfl); (case hr => first | (go_simp; done) | (go_simp; rfl)); intro gb102 hg w14 hbox hb; have n0_ := Aside0.mk (below_step (by repeat (first | (with_reducible first | exact HB.out | apply below_alloc | apply pw_below_drewN | apply below_drew1) | exact HB.out)) hb); have n1_ := Aside0.mk (hbox); have n2_ := Aside0.mk ((by rw [hg]; exact (below_size (by repeat (first | (with_reducible first | exact HB.out | apply below_alloc | apply pw_below_drewN | apply below_drew1) | exact HB.out))) : w.heap.size ≤ gb102)); have n3_ := Aside0.mk ((by rw [hg]; exact (below_size (by repeat (first | (with_reducible first | exact HB.out | apply below_alloc | apply pw_below_drewN | apply below_drew1) | exact HB.out))) : w.heap.size ≤ gb102)); clear HB; have HB := n0_; have BK102 := n1_; have GW102 := n2_; have GE102 := n3_; clear n0_ n1_ n2_ n3_; clear hb hbox hg; have hcz15_0 : w14.cell? ⟨gb102, 0, none⟩ = some (.int .i64 0) := (blk_cell BK102.out 0).trans rfl; have hcz15_1 : w14.cell? ⟨gb102, 1, none⟩ = some (.slice none 0 0) := (blk_cell BK102.out 1).trans rfl; have hfz15_0 := blk_frozen BK102.out 0; have hfz15_1 := blk_frozen BK102.out 1))
                  go_roundg k1
                  case measure => have := HK1.out; omega
                  case rel => exact ⟨((rd_T40 l0 x8_1).f0), (wrap64 (x8_1 + 1)), (by first | rfl | (simp; done) | (simp [*]; done)), (by first | rfl | (simp; done) | (simp [*]; done)), H', ⟨by have := HK1.out; omega⟩, ⟨by repeat (first | (with_reducible first | exact HB.out | apply below_alloc | apply pw_below_drewN | apply below_drew1 | refine below_set ?_ GE102.out) | exact HB.out)⟩⟩
          · rw [if_neg c4] at H
            exact absurd H (by simp)
        · rw [if_neg c3] at H
          exact absurd H (by simp)
      · rw [if_neg c2] at H
        have c2b0 : decide (x8_1 < (l0.length : Int)) = false := decide_eq_false c2
        clear c2
        obtain rfl := Option.some.inj H
        go_wp2
        go_ret
        exact ⟨by first | rfl | (simp [errW_none, errW_some] <;> rfl) | (simp [*, errW_none, errW_some] <;> rfl), by repeat (first | (with_reducible first | exact HB.out | apply below_alloc | apply pw_below_drewN | apply below_drew1) | exact HB.out)⟩

/-! ### gatelineref01_Same: function 18 -/
def gatelineref01_Same.l0 : Nat → List Int → List Int → Int → Option (Bool)
  | 0, _, _, _ => none
  | k + 1, x0, x1, x5 => if x5 < (x0.length : Int) then (if 0 ≤ x5 then (if x5 < (x1.length : Int) then (if (rd x0 x5) = (rd x1 x5) then (gatelineref01_Same.l0 k x0 x1 (wrap64 (x5 + 1))) else (some false)) else (none)) else (none)) else (some true)
def gatelineref01_Same.f (k : Nat) (l0 : List Int) (l1 : List Int) : Option (Bool) := if (l0.length : Int) = (l1.length : Int) then (gatelineref01_Same.l0 k l0 l1 0) else (some false)
theorem gatelineref01_Same.mono_l : ∀ k, (∀ y0 y1 y2, LeO (gatelineref01_Same.l0 k y0 y1 y2) (gatelineref01_Same.l0 (k + 1) y0 y1 y2))
  | 0 => fun _ _ _ r h => by simp [gatelineref01_Same.l0] at h
  | k + 1 => by
    have ih0 := gatelineref01_Same.mono_l k
    · intro y0 y1 y2
      unfold gatelineref01_Same.l0
      repeat' first
      | (with_reducible exact ih0 _ _ _)
      | (with_reducible exact LeO.refl _)
      | (with_reducible exact LeO.none _)
      | (with_reducible refine LeO.ite ?_ ?_)
      | (with_reducible refine LeO.bind ?_ (fun _ => ?_))
      | exact ih0 _ _ _
      | exact LeO.none _
      | refine LeO.ite ?_ ?_
      | refine LeO.bind ?_ (fun _ => ?_)
theorem gatelineref01_Same.mono : ∀ a0 a1 k, LeO (gatelineref01_Same.f k a0 a1) (gatelineref01_Same.f (k + 1) a0 a1) := by
  intro a0 a1 k
  have ih0 := gatelineref01_Same.mono_l k
  unfold gatelineref01_Same.f
  repeat' first
      | (with_reducible exact ih0 _ _ _)
      | (with_reducible exact LeO.refl _)
      | (with_reducible exact LeO.none _)
      | (with_reducible refine LeO.ite ?_ ?_)
      | (with_reducible refine LeO.bind ?_ (fun _ => ?_))
      | exact ih0 _ _ _
      | exact LeO.none _
      | refine LeO.ite ?_ ?_
      | refine LeO.bind ?_ (fun _ => ?_)
set_option maxHeartbeats 8000000 in
set_option maxRecDepth 100000 in
theorem gatelineref01_Same.calls (k : Nat) (A0 : Option Addr) (c0 : Nat) (l0 : List Int) (A1 : Option Addr) (c1 : Nat) (l1 : List Int) (r : Bool) (w : World) (hr0 : Kd.C (Kd.int .u8) w A0 l0.length l0) (hc0 : l0.length ≤ c0) (hr1 : Kd.C (Kd.int .u8) w A1 l1.length l1) (hc1 : l1.length ≤ c1) (h : gatelineref01_Same.f k l0 l1 = some r) :
    Calls Try.prog 18 #[.slice A0 l0.length c0, .slice A1 l1.length c1] w fun e w' => e = .returned (.bool r) ∧ Drawn0 w w' := by
  have HR0 := Aside0.mk hr0
  have HC0 := Aside0.mk hc0
  clear hr0 hc0
  have HR1 := Aside0.mk hr1
  have HC1 := Aside0.mk hc1
  clear hr1 hc1
  have H : (if (l0.length : Int) = (l1.length : Int) then (gatelineref01_Same.l0 k l0 l1 0) else (some false)) = some r := h
  clear h
  by_cases c3 : (l0.length : Int) = (l1.length : Int)
  · rw [if_pos c3] at H
    have c3b0 : ((l0.length : Int) == (l1.length : Int)) = true := beq_iff_eq.mpr c3
    have c3b1 : ((l0.length : Int) != (l1.length : Int)) = false := bne_eq_false_iff_eq.mpr c3
    have c3b2 : (l0.length == l1.length) = true := by first | simpa using c3 | (simp at c3 ⊢; omega)
    clear c3
    have H' := Aside0.mk H
    clear H
    go_enter Try.func18, Try.ntmps18
    go_wp2
    repeat (go_quiet (fail); try go_wp2)
    go_loopg [5] k (fun kq v5 w' => ∃ (x5_1 : Int), v5 = .int .i64 x5_1 ∧ Aside0 (gatelineref01_Same.l0 kq l0 l1 x5_1 = some r) ∧ Aside0 (kq ≤ k) ∧ Drawn0 w w')
    case atStart => exact ⟨(0), (by first | rfl | (simp; done) | (simp [*]; done)), H', ⟨Nat.le_refl _⟩, by repeat (first | exact Drawn0.refl _ | apply Drawn0.step)⟩
    case round =>
      clear H'
      try clear c1
      try clear p2
      try clear c3
      try clear c3b0
      try clear c3b1
      try clear c3b2
      obtain ⟨x5_1, rfl, HA, HK1, ⟨m1, rfl⟩⟩ := hrel
      cases gk with
      | zero => exact absurd HA.out (by simp [gatelineref01_Same.l0])
      | succ k1 =>
        have H := HA.out
        clear HA
        simp only [gatelineref01_Same.l0] at H
        by_cases c4 : x5_1 < (l0.length : Int)
        · rw [if_pos c4] at H
          have c4b0 : decide (x5_1 < (l0.length : Int)) = true := decide_eq_true c4
          clear c4
          by_cases c5 : 0 ≤ x5_1
          · rw [if_pos c5] at H
            have c5b0 : decide (0 ≤ x5_1) = true := decide_eq_true c5
            clear c5
            by_cases c6 : x5_1 < (l1.length : Int)
            · rw [if_pos c6] at H
              have c6b0 : decide (x5_1 < (l1.length : Int)) = true := decide_eq_true c6
              clear c6
              by_cases c7 : (rd l0 x5_1) = (rd l1 x5_1)
              · rw [if_pos c7] at H
                have c7b0 : ((rd l0 x5_1) == (rd l1 x5_1)) = true := beq_iff_eq.mpr c7
                have c7b1 : ((rd l0 x5_1) != (rd l1 x5_1)) = false := bne_eq_false_iff_eq.mpr c7
                clear c7
                have H' := Aside0.mk H
                clear H
                have p115 : 0 ≤ (x5_1 : Int) := of_decide_eq_true (by first | (with_reducible assumption) | assumption)
                have q115 : x5_1 < (l0.length : Int) := of_decide_eq_true (by first | (with_reducible assumption) | assumption)
                obtain ⟨ad115, e115, hx115_0⟩ := Kd.at_int HR0.out x5_1 p115 q115
                cases e115
                replace p115 := eq_true p115
                replace q115 := eq_true q115
                have p116 : 0 ≤ (x5_1 : Int) := of_decide_eq_true (by first | (with_reducible assumption) | assumption)
                have q116 : x5_1 < (l1.length : Int) := of_decide_eq_true (by first | (with_reducible assumption) | assumption)
                obtain ⟨ad116, e116, hx116_0⟩ := Kd.at_int HR1.out x5_1 p116 q116
                cases e116
                replace p116 := eq_true p116
                replace q116 := eq_true q116
                go_wp2
                repeat (go_quiet (fail); try go_wp2)
                go_roundg k1
                case measure => have := HK1.out; omega
                case rel => exact ⟨(wrap64 (x5_1 + 1)), (by first | rfl | (simp; done) | (simp [*]; done)), H', ⟨by have := HK1.out; omega⟩, by repeat (first | exact Drawn0.refl _ | apply Drawn0.step)⟩
              · rw [if_neg c7] at H
                have c7b0 : ((rd l0 x5_1) == (rd l1 x5_1)) = false := beq_eq_false_iff_ne.mpr c7
                have c7b1 : ((rd l0 x5_1) != (rd l1 x5_1)) = true := bne_iff_ne.mpr c7
                obtain rfl := Option.some.inj H
                have p115 : 0 ≤ (x5_1 : Int) := of_decide_eq_true (by first | (with_reducible assumption) | assumption)
                have q115 : x5_1 < (l0.length : Int) := of_decide_eq_true (by first | (with_reducible assumption) | assumption)
                obtain ⟨ad115, e115, hx115_0⟩ := Kd.at_int HR0.out x5_1 p115 q115
                cases e115
                replace p115 := eq_true p115
                replace q115 := eq_true q115
                have p116 : 0 ≤ (x5_1 : Int) := of_decide_eq_true (by first | (with_reducible assumption) | assumption)
                have q116 : x5_1 < (l1.length : Int) := of_decide_eq_true (by first | (with_reducible assumption) | assumption)
                obtain ⟨ad116, e116, hx116_0⟩ := Kd.at_int HR1.out x5_1 p116 q116
                cases e116
                replace p116 := eq_true p116
                replace q116 := eq_true q116
                go_wp2
                repeat (go_quiet (fail); try go_wp2)
                go_ret
                exact ⟨by first | rfl | (simp; done) | (simp [*]; done), by repeat (first | exact Drawn0.refl _ | apply Drawn0.step)⟩
            · rw [if_neg c6] at H
              exact absurd H (by simp)
          · rw [if_neg c5] at H
            exact absurd H (by simp)
        · rw [if_neg c4] at H
          have c4b0 : decide (x5_1 < (l0.length : Int)) = false := decide_eq_false c4
          clear c4
          obtain rfl := Option.some.inj H
          go_wp2
          repeat (go_quiet (fail); try go_wp2)
          go_ret
          exact ⟨by first | rfl | (simp; done) | (simp [*]; done), by repeat (first | exact Drawn0.refl _ | apply Drawn0.step)⟩
  · rw [if_neg c3] at H
    have c3b0 : ((l0.length : Int) == (l1.length : Int)) = false := beq_eq_false_iff_ne.mpr c3
    have c3b1 : ((l0.length : Int) != (l1.length : Int)) = true := bne_iff_ne.mpr c3
    have c3b2 : (l0.length == l1.length) = false := by first | simpa using c3 | (simp at c3 ⊢; omega)
    obtain rfl := Option.some.inj H
    go_enter Try.func18, Try.ntmps18
    go_wp2
    repeat (go_quiet (fail); try go_wp2)
    go_ret
    exact ⟨by first | rfl | (simp; done) | (simp [*]; done), by repeat (first | exact Drawn0.refl _ | apply Drawn0.step)⟩

end Go.Proofs.Ytekgienbhpknlaa.PL
end
section
namespace Go.Proofs.Ytekgienbhpknlaa.Q
open Go Go.RowKit Go.Proofs.Ytekgienbhpknlaa.PL Go.Proofs.YtekgienbhpknlaaW.PrintWords Go.Proofs.YtekgienbhpknlaaW.PrintLast Go.Proofs.YtekgienbhpknlaaW.PrintMore

theorem w64 {x : Int} (h0 : -9223372036854775808 ≤ x) (h1 : x ≤ 9223372036854775807) : wrap64 x = x := by
  unfold wrap64
  omega
theorem w64_succ (i : Nat) (h : i ≤ 9223372036854775806) : wrap64 ((i : Int) + 1) = ((i + 1 : Nat) : Int) := by rw [w64 (by omega) (by omega)]; omega
theorem w64_four (i : Nat) (h : i ≤ 1000000000000000000) : wrap64 (4 * (i : Int)) = ((4 * i : Nat) : Int) := by rw [w64 (by omega) (by omega)]; omega
theorem w64_plus (i c : Nat) (h : i + c ≤ 9223372036854775807) : wrap64 ((i : Int) + (c : Int)) = ((i + c : Nat) : Int) := by rw [w64 (by omega) (by omega)]; omega
theorem ev_of {α : Type} {g : Nat → Option α} {r : α} (K : Nat) (h : ∀ k, K ≤ k → g k = some r) : Ev g r := ⟨K, h⟩
theorem ev_ite {α : Type} {c : Prop} [Decidable c] {g f : Nat → Option α} {r : α} (h1 : c → Ev g r) (h2 : ¬ c → Ev f r) : Ev (fun k => if c then g k else f k) r := by
  by_cases h : c
  · obtain ⟨K, hK⟩ := h1 h
    exact ⟨K, fun k hk => by simp only [if_pos h]; exact hK k hk⟩
  · obtain ⟨K, hK⟩ := h2 h
    exact ⟨K, fun k hk => by simp only [if_neg h]; exact hK k hk⟩
theorem ev_unique {α : Type} {g : Nat → Option α} {r q : α} (h : Ev g r) (h' : Ev g q) : r = q := by
  obtain ⟨K, h⟩ := h
  obtain ⟨K', h'⟩ := h'
  have a := h (max K K') (by omega)
  have b := h' (max K K') (by omega)
  rw [a] at b
  exact Option.some.inj b

/-! ### rows that are the same -/
theorem same_gen {L : Nat → List Int → List Int → Int → Option Bool}
    (hL : ∀ k x0 x1 x5, L (k + 1) x0 x1 x5 = if x5 < (x0.length : Int) then (if 0 ≤ x5 then (if x5 < (x1.length : Int) then (if rd x0 x5 = rd x1 x5 then L k x0 x1 (wrap64 (x5 + 1)) else some false) else none) else none) else some true)
    (a b : List Int) (hab : a.length = b.length) (hlen : a.length ≤ 9223372036854775806) (d : Nat) :
    ∀ (k i : Nat), a.length - i = d → i ≤ a.length → d < k → L k a b (i : Int) = some (decide (a.drop i = b.drop i)) := by
  induction d with
  | zero =>
    intro k i hd hi hk
    obtain ⟨k, rfl⟩ : ∃ m, k = m + 1 := ⟨k - 1, by omega⟩
    have : i = a.length := by omega
    subst this
    rw [hL, if_neg (by omega)]
    simp [hab]
  | succ d ih =>
    intro k i hd hi hk
    obtain ⟨k, rfl⟩ : ∃ m, k = m + 1 := ⟨k - 1, by omega⟩
    have hlt : i < a.length := by omega
    have hlt' : i < b.length := by omega
    rw [hL, if_pos (by omega), if_pos (by omega), if_pos (by omega)]
    rw [List.drop_eq_getElem_cons hlt, List.drop_eq_getElem_cons hlt']
    have ha : rd a (i : Int) = a[i] := by simp [rd, hlt]
    have hb : rd b (i : Int) = b[i] := by simp [rd, hlt']
    rw [ha, hb]
    by_cases h : a[i] = b[i]
    · rw [if_pos h, w64 (by omega) (by omega), show ((i : Int) + 1) = ((i + 1 : Nat) : Int) by omega, ih k (i + 1) (by omega) (by omega) (by omega)]
      simp only [List.cons.injEq, h, true_and]
    · rw [if_neg h]
      simp only [List.cons.injEq, h, false_and, decide_false]
theorem same_ev (a b : List Int) (hl : a.length ≤ 9223372036854775806) : Ev (fun k => gatelineref01_Same.f k a b) (decide (a = b)) := by
  refine ⟨a.length + 1, fun k hk => ?_⟩
  show gatelineref01_Same.f k a b = _
  unfold gatelineref01_Same.f
  by_cases h : a.length = b.length
  · rw [if_pos (by omega)]
    have := same_gen (L := gatelineref01_Same.l0) (fun _ _ _ _ => rfl) a b h hl a.length k 0 (by omega) (by omega) (by omega)
    simpa using this
  · rw [if_neg (by omega)]
    congr 1
    exact (decide_eq_false (fun e => h (by rw [e]))).symm
theorem same_true (a : List Int) (hl : a.length ≤ 9223372036854775806) : Ev (fun k => gatelineref01_Same.f k a a) true := by
  have := same_ev a a hl
  simpa using this

def IsBytes (b : List Int) : Prop := ∀ x ∈ b, 0 ≤ x ∧ x ≤ 255
def IsWords (b : List Int) : Prop := ∀ x ∈ b, 0 ≤ x ∧ x < 4294967296
theorem isBytes_of {b : List Int} (h : ∀ x ∈ b, (Lit.int .u8 x).wf = true) : IsBytes b := fun x hx => by
  have := h x hx
  have h1 : IntKind.u8.min = 0 := rfl
  have h2 : IntKind.u8.max = 255 := rfl
  simp only [Lit.wf, Bool.and_eq_true, decide_eq_true_eq] at this
  omega
theorem isWords_of {b : List Int} (h : ∀ x ∈ b, (Lit.int .u32 x).wf = true) : IsWords b := fun x hx => by
  have := h x hx
  have h1 : IntKind.u32.min = 0 := rfl
  have h2 : IntKind.u32.max = 4294967295 := rfl
  simp only [Lit.wf, Bool.and_eq_true, decide_eq_true_eq] at this
  omega
theorem i64_of {x : Int} (h : (Lit.int .i64 x).wf = true) : -9223372036854775808 ≤ x ∧ x ≤ 9223372036854775807 := by
  have h1 : IntKind.i64.min = -9223372036854775808 := rfl
  have h2 : IntKind.i64.max = 9223372036854775807 := rfl
  simp only [Lit.wf, Bool.and_eq_true, decide_eq_true_eq] at h
  omega
theorem u32_of {x : Int} (h : (Lit.int .u32 x).wf = true) : 0 ≤ x ∧ x < 4294967296 := by
  have h1 : IntKind.u32.min = 0 := rfl
  have h2 : IntKind.u32.max = 4294967295 := rfl
  simp only [Lit.wf, Bool.and_eq_true, decide_eq_true_eq] at h
  omega
theorem IsBytes.getD {b : List Int} (h : IsBytes b) (i : Nat) : 0 ≤ b.getD i 0 ∧ b.getD i 0 ≤ 255 := by
  rw [List.getD_eq_getElem?_getD]
  rcases Nat.lt_or_ge i b.length with hi | hi
  · rw [List.getElem?_eq_getElem hi]
    exact h _ (List.getElem_mem hi)
  · rw [List.getElem?_eq_none hi]
    simp
theorem IsWords.getD {b : List Int} (h : IsWords b) (i : Nat) : 0 ≤ b.getD i 0 ∧ b.getD i 0 < 4294967296 := by
  rw [List.getD_eq_getElem?_getD]
  rcases Nat.lt_or_ge i b.length with hi | hi
  · rw [List.getElem?_eq_getElem hi]
    exact h _ (List.getElem_mem hi)
  · rw [List.getElem?_eq_none hi]
    simp

/-! ### or -/
theorem or_u32 (i p : Nat) (hp : 2 ^ i = p) (hpl : p ≤ 4294967296) (x y : Int) (h0 : 0 ≤ x) (h1 : x < 4294967296) (hx : x % (p : Int) = 0) (hy0 : 0 ≤ y) (hy : y < p) : Go.bits .or .u32 x y = x + y := by
  obtain ⟨X, rfl⟩ := Int.eq_ofNat_of_zero_le h0
  obtain ⟨Y, rfl⟩ := Int.eq_ofNat_of_zero_le hy0
  rw [u32_or_nat X Y (by omega) (by omega), nat_join i X Y (by rw [hp]; omega) (by rw [hp]; omega)]
  omega
theorem or_u64 (i p : Nat) (hp : 2 ^ i = p) (hpl : p ≤ 18446744073709551616) (x y : Int) (h0 : 0 ≤ x) (h1 : x < 18446744073709551616) (hx : x % (p : Int) = 0) (hy0 : 0 ≤ y) (hy : y < p) : Go.bits .or .u64 x y = x + y := by
  obtain ⟨X, rfl⟩ := Int.eq_ofNat_of_zero_le h0
  obtain ⟨Y, rfl⟩ := Int.eq_ofNat_of_zero_le hy0
  rw [u64_or_nat X Y (by omega) (by omega), nat_join i X Y (by rw [hp]; omega) (by rw [hp]; omega)]
  omega
theorem or4 (a b c d : Int) (ha : 0 ≤ a ∧ a ≤ 255) (hb : 0 ≤ b ∧ b ≤ 255) (hc : 0 ≤ c ∧ c ≤ 255) (hd : 0 ≤ d ∧ d ≤ 255) :
    Go.bits .or .u32 (Go.bits .or .u32 (Go.bits .or .u32 (((a % 4294967296) * 16777216) % 4294967296) (((b % 4294967296) * 65536) % 4294967296)) (((c % 4294967296) * 256) % 4294967296)) (d % 4294967296) = a * 16777216 + b * 65536 + c * 256 + d := by
  rw [or_u32 24 16777216 (by decide) (by decide) (((a % 4294967296) * 16777216) % 4294967296) _ (by omega) (by omega) (by omega) (by omega) (by omega)]
  rw [or_u32 16 65536 (by decide) (by decide) _ (((c % 4294967296) * 256) % 4294967296) (by omega) (by omega) (by omega) (by omega) (by omega)]
  rw [or_u32 8 256 (by decide) (by decide) _ (d % 4294967296) (by omega) (by omega) (by omega) (by omega) (by omega)]
  omega

theorem take_snoc (w : List Int) (i : Nat) (h : i < w.length) : w.take (i + 1) = w.take i ++ [w.getD i 0] := by
  rw [List.take_succ_eq_append_getElem h, List.getD_eq_getElem?_getD, List.getElem?_eq_getElem h]
  rfl
end Go.Proofs.Ytekgienbhpknlaa.Q
end
section
namespace Go.Proofs.Ytekgienbhpknlaa.PL
open Go.RowKit Go.Proofs.YtekgienbhpknlaaW.PrintWords Go.Proofs.YtekgienbhpknlaaW.PrintLast Go.Proofs.YtekgienbhpknlaaW.PrintMore
attribute [local go_sem] max2_int min2_int max_two min_two max_three min_three max_four min_four   -- for this text's walks alone
set_option linter.unusedVariables false
set_option linter.unusedSimpArgs false

/-! ### bits_Put: function 37 -/
mutual
def bits_Put.j1 : Nat → Int → Int → Option (List Int × Int)
  | 0, _, _ => none
  | k + 1, x0, x1 => if 0 ≤ x1 then (if (x1 : Int).toNat ≤ 281474976710656 then (bits_Put.l0 k x0 x1 (List.replicate (x1 : Int).toNat 0) x1 0) else (none)) else (none)
def bits_Put.l0 : Nat → Int → Int → List Int → Int → Int → Option (List Int × Int)
  | 0, _, _, _, _, _ => none
  | k + 1, x0, x1, x6, x32, x33 => if x33 < x32 then (if 0 ≤ (IntKind.u64.wrap (8 * (IntKind.u64.wrap (x33)))) then (if 0 ≤ (wrap64 ((wrap64 (x1 - 1)) - x33)) then (if (wrap64 ((wrap64 (x1 - 1)) - x33)) < (x6.length : Int) then (bits_Put.l0 k x0 x1 (x6.set ((wrap64 ((wrap64 (x1 - 1)) - x33)) : Int).toNat ((shr .i64 x0 (IntKind.u64.wrap (8 * (IntKind.u64.wrap (x33))))) % 256)) x32 (wrap64 (x33 + 1))) else (none)) else (none)) else (none)) else (some (x6, 0))
def bits_Put.j0 : Nat → Int → Int → Bool → Option (List Int × Int)
  | 0, _, _, _ => none
  | k + 1, x0, x1, x8 => if x8 = true then (some (([] : List Int), 1)) else (if x1 < 8 then (if 0 ≤ (IntKind.u64.wrap (8 * (IntKind.u64.wrap (x1)))) then (if (shr .i64 x0 (IntKind.u64.wrap (8 * (IntKind.u64.wrap (x1))))) > 0 then (some (([] : List Int), 23)) else (bits_Put.j1 k x0 x1)) else (none)) else (bits_Put.j1 k x0 x1))
end
def bits_Put.f (k : Nat) (a0 : Int) (a1 : Int) : Option (List Int × Int) := if a1 < 0 then (bits_Put.j0 k a0 a1 true) else (if a1 > 8 then (bits_Put.j0 k a0 a1 true) else (bits_Put.j0 k a0 a1 (decide (a0 < 0))))
theorem bits_Put.mono_l : ∀ k, (∀ y0 y1, LeO (bits_Put.j1 k y0 y1) (bits_Put.j1 (k + 1) y0 y1)) ∧ (∀ y0 y1 y2 y3 y4, LeO (bits_Put.l0 k y0 y1 y2 y3 y4) (bits_Put.l0 (k + 1) y0 y1 y2 y3 y4)) ∧ (∀ y0 y1 y2, LeO (bits_Put.j0 k y0 y1 y2) (bits_Put.j0 (k + 1) y0 y1 y2))
  | 0 => ⟨fun _ _ r h => by simp [bits_Put.j1] at h, fun _ _ _ _ _ r h => by simp [bits_Put.l0] at h, fun _ _ _ r h => by simp [bits_Put.j0] at h⟩
  | k + 1 => by
    obtain ⟨ih0, ih1, ih2⟩ := bits_Put.mono_l k
    refine ⟨?_, ?_, ?_⟩
    · intro y0 y1
      unfold bits_Put.j1
      repeat' first
      | (with_reducible exact ih0 _ _)
      | (with_reducible exact ih1 _ _ _ _ _)
      | (with_reducible exact ih2 _ _ _)
      | (with_reducible exact LeO.refl _)
      | (with_reducible exact LeO.none _)
      | (with_reducible refine LeO.ite ?_ ?_)
      | (with_reducible refine LeO.bind ?_ (fun _ => ?_))
      | exact ih0 _ _
      | exact ih1 _ _ _ _ _
      | exact ih2 _ _ _
      | exact LeO.none _
      | refine LeO.ite ?_ ?_
      | refine LeO.bind ?_ (fun _ => ?_)
    · intro y0 y1 y2 y3 y4
      unfold bits_Put.l0
      repeat' first
      | (with_reducible exact ih0 _ _)
      | (with_reducible exact ih1 _ _ _ _ _)
      | (with_reducible exact ih2 _ _ _)
      | (with_reducible exact LeO.refl _)
      | (with_reducible exact LeO.none _)
      | (with_reducible refine LeO.ite ?_ ?_)
      | (with_reducible refine LeO.bind ?_ (fun _ => ?_))
      | exact ih0 _ _
      | exact ih1 _ _ _ _ _
      | exact ih2 _ _ _
      | exact LeO.none _
      | refine LeO.ite ?_ ?_
      | refine LeO.bind ?_ (fun _ => ?_)
    · intro y0 y1 y2
      unfold bits_Put.j0
      repeat' first
      | (with_reducible exact ih0 _ _)
      | (with_reducible exact ih1 _ _ _ _ _)
      | (with_reducible exact ih2 _ _ _)
      | (with_reducible exact LeO.refl _)
      | (with_reducible exact LeO.none _)
      | (with_reducible refine LeO.ite ?_ ?_)
      | (with_reducible refine LeO.bind ?_ (fun _ => ?_))
      | exact ih0 _ _
      | exact ih1 _ _ _ _ _
      | exact ih2 _ _ _
      | exact LeO.none _
      | refine LeO.ite ?_ ?_
      | refine LeO.bind ?_ (fun _ => ?_)
theorem bits_Put.mono : ∀ a0 a1 k, LeO (bits_Put.f k a0 a1) (bits_Put.f (k + 1) a0 a1) := by
  intro a0 a1 k
  obtain ⟨ih0, ih1, ih2⟩ := bits_Put.mono_l k
  unfold bits_Put.f
  repeat' first
      | (with_reducible exact ih0 _ _)
      | (with_reducible exact ih1 _ _ _ _ _)
      | (with_reducible exact ih2 _ _ _)
      | (with_reducible exact LeO.refl _)
      | (with_reducible exact LeO.none _)
      | (with_reducible refine LeO.ite ?_ ?_)
      | (with_reducible refine LeO.bind ?_ (fun _ => ?_))
      | exact ih0 _ _
      | exact ih1 _ _ _ _ _
      | exact ih2 _ _ _
      | exact LeO.none _
      | refine LeO.ite ?_ ?_
      | refine LeO.bind ?_ (fun _ => ?_)
set_option maxHeartbeats 8000000 in
set_option maxRecDepth 100000 in
theorem bits_Put.calls (k : Nat) (a0 : Int) (a1 : Int) (r1 : List Int) (r2 : Int) (w : World) (h : bits_Put.f k a0 a1 = some (r1, r2)) :
    Calls Try.prog 37 #[.int .i64 a0, .int .i64 a1] w fun e w' => ∃ v0_ : Value, e = .returned (.tuple #[v0_, .int .i64 r2]) ∧ Kd.R (Kd.int .u8) 5 w' w.heap.size (fun _ => True) v0_ r1 ∧ Below w.heap.size w w' := by
  have HB := Aside0.mk (Below.refl w.heap.size w)
  have H : (if a1 < 0 then (bits_Put.j0 k a0 a1 true) else (if a1 > 8 then (bits_Put.j0 k a0 a1 true) else (bits_Put.j0 k a0 a1 (decide (a0 < 0))))) = some (r1, r2) := h
  clear h
  have HC3 := Aside0.mk H
  clear H
  go_enter Try.func37, Try.ntmps37
  go_upto_block 0 with (fail)
  go_cut [] (fun wc => ∃ (kq : Nat), Aside0 (bits_Put.j1 kq a0 a1 = some (r1, r2)) ∧ Aside0 (kq ≤ k) ∧ Aside0 (Below w.heap.size w wc))
  case first =>
    have H := HC3.out
    clear HC3
    have HC4 := Aside0.mk H
    clear H
    go_upto_region 1 with (fail)
    go_cut [8] (fun v8 wc => ∃ (kq : Nat) (x8_3 : Bool), v8 = .bool x8_3 ∧ Aside0 (bits_Put.j0 kq a0 a1 x8_3 = some (r1, r2)) ∧ Aside0 (kq ≤ k) ∧ Aside0 (Below w.heap.size w wc))
    case first =>
      have H := HC4.out
      clear HC4
      by_cases c5 : a1 < 0
      · rw [if_pos c5] at H
        have c5b0 : decide (a1 < 0) = true := decide_eq_true c5
        clear c5
        (first | rw [c5b0] | (simp only [i64_w, i32_w]; rw [c5b0]) | skip)
        have H' := Aside0.mk H
        clear H
        go_wp2
        go_meet
        case rel => exact ⟨_, (true), (by first | rfl | (simp; done) | (simp [*]; done)), H', ⟨by first | omega | exact Nat.le_refl _⟩, ⟨by repeat (first | (with_reducible first | exact HB.out | apply below_alloc | apply pw_below_drewN | apply below_drew1) | exact HB.out)⟩⟩
      · rw [if_neg c5] at H
        have c5b0 : decide (a1 < 0) = false := decide_eq_false c5
        clear c5
        (first | rw [c5b0] | (simp only [i64_w, i32_w]; rw [c5b0]) | skip)
        by_cases c6 : a1 > 8
        · rw [if_pos c6] at H
          have c6b0 : decide (8 < a1) = true := decide_eq_true c6
          clear c6
          have H' := Aside0.mk H
          clear H
          go_wp2
          go_meet
          case rel => exact ⟨_, (true), (by first | rfl | (simp; done) | (simp [*]; done)), H', ⟨by first | omega | exact Nat.le_refl _⟩, ⟨by repeat (first | (with_reducible first | exact HB.out | apply below_alloc | apply pw_below_drewN | apply below_drew1) | exact HB.out)⟩⟩
        · rw [if_neg c6] at H
          have c6b0 : decide (8 < a1) = false := decide_eq_false c6
          clear c6
          have H' := Aside0.mk H
          clear H
          go_wp2
          go_meet
          case rel => exact ⟨_, (decide (a0 < 0)), (by first | rfl | (simp; done) | (simp [*]; done)), H', ⟨by first | omega | exact Nat.le_refl _⟩, ⟨by repeat (first | (with_reducible first | exact HB.out | apply below_alloc | apply pw_below_drewN | apply below_drew1) | exact HB.out)⟩⟩
    case rest =>
      clear HC4
      try clear p2
      try clear c3
      try clear c5
      try clear c5b0
      try clear c6
      try clear c6b0
      obtain ⟨kq, x8_3, rfl, HA, HJ3, HB⟩ := hcut
      cases kq with
      | zero => exact absurd HA.out (by simp [bits_Put.j0])
      | succ kj3 =>
        have H := HA.out
        clear HA
        simp only [bits_Put.j0] at H
        by_cases c7 : x8_3 = true
        · subst c7
          have H1 : (some (([] : List Int), 1)) = some (r1, r2) := by rw [if_pos rfl] at H; exact H
          clear H
          have H := H1
          clear H1
          simp only [Option.some.injEq, Prod.mk.injEq] at H
          obtain ⟨rfl, rfl⟩ := H
          go_wp2
          go_ret2
          exact ⟨_, by first | rfl | (simp [errW_none, errW_some] <;> rfl) | (simp [*, errW_none, errW_some] <;> rfl), by first | exact Kd.R_nil _ _ _ _ _ | exact Kd.N_nil _ _ _ _ _ | exact Kd.V_nil _ _ _ _ _ | exact Kd.Q_nil _ _ _ _ _ | exact Kd.S_nil _ _ _ _ _, by repeat (first | (with_reducible first | exact HB.out | apply below_alloc | apply pw_below_drewN | apply below_drew1) | exact HB.out)⟩
        · replace c7 := Bool.eq_false_iff.mpr c7
          subst c7
          have H1 : (if a1 < 8 then (if 0 ≤ (IntKind.u64.wrap (8 * (IntKind.u64.wrap (a1)))) then (if (shr .i64 a0 (IntKind.u64.wrap (8 * (IntKind.u64.wrap (a1))))) > 0 then (some (([] : List Int), 23)) else (bits_Put.j1 kj3 a0 a1)) else (none)) else (bits_Put.j1 kj3 a0 a1)) = some (r1, r2) := by rw [if_neg (show ¬ (false = true) by decide)] at H; exact H
          clear H
          have H := H1
          clear H1
          by_cases c8 : a1 < 8
          · rw [if_pos c8] at H
            have c8b0 : decide (a1 < 8) = true := decide_eq_true c8
            clear c8
            obtain ⟨ji9, hji9⟩ : ∃ j_ : Int, (IntKind.u64.wrap (8 * (IntKind.u64.wrap (a1)))) = j_ := ⟨_, rfl⟩
            replace H : (if 0 ≤ (ji9) then (if (shr .i64 a0 (ji9)) > 0 then (some (([] : List Int), 23)) else (bits_Put.j1 kj3 a0 a1)) else (none)) = some (r1, r2) := by first | (rw [hji9] at H; exact H) | (simp only [hji9] at H ⊢; exact H)
            by_cases c10 : 0 ≤ (ji9)
            · rw [if_pos c10] at H
              have c10b0 := eq_true c10
              have c10b1 : decide (0 ≤ (ji9)) = true := decide_eq_true c10
              clear c10
              obtain ⟨ji11, hji11⟩ : ∃ j_ : Int, (shr .i64 a0 (ji9)) = j_ := ⟨_, rfl⟩
              replace H : (if (ji11) > 0 then (some (([] : List Int), 23)) else (bits_Put.j1 kj3 a0 a1)) = some (r1, r2) := by first | (rw [hji11] at H; exact H) | (simp only [hji11] at H ⊢; exact H)
              have hji11_ : (a0 / 2 ^ min (ji9).toNat 64) = ji11 := hji11
              have hji11z : (ji9) ≤ 64 → (a0 / 2 ^ (ji9).toNat) = ji11 := shr_small hji11
              by_cases c12 : (ji11) > 0
              · rw [if_pos c12] at H
                have c12b0 : decide (0 < (ji11)) = true := decide_eq_true c12
                clear c12
                simp only [Option.some.injEq, Prod.mk.injEq] at H
                obtain ⟨rfl, rfl⟩ := H
                go_wp2
                go_ret2
                exact ⟨_, by first | rfl | (simp [errW_none, errW_some] <;> rfl) | (simp only [← hji9, ← hji11]; first | rfl | (simp [errW_none, errW_some] <;> rfl)) | (simp [*, errW_none, errW_some] <;> rfl), by first | exact Kd.R_nil _ _ _ _ _ | exact Kd.N_nil _ _ _ _ _ | exact Kd.V_nil _ _ _ _ _ | exact Kd.Q_nil _ _ _ _ _ | exact Kd.S_nil _ _ _ _ _, by repeat (first | (with_reducible first | exact HB.out | apply below_alloc | apply pw_below_drewN | apply below_drew1) | exact HB.out)⟩
              · rw [if_neg c12] at H
                have c12b0 : decide (0 < (ji11)) = false := decide_eq_false c12
                clear c12
                have H' := Aside0.mk H
                clear H
                go_wp2
                go_meet
                case rel => exact ⟨_, H', ⟨by have := HJ3.out; first | omega | exact Nat.le_refl _⟩, ⟨by repeat (first | (with_reducible first | exact HB.out | apply below_alloc | apply pw_below_drewN | apply below_drew1) | exact HB.out)⟩⟩
            · rw [if_neg c10] at H
              exact absurd H (by simp)
          · rw [if_neg c8] at H
            have c8b0 : decide (a1 < 8) = false := decide_eq_false c8
            clear c8
            have H' := Aside0.mk H
            clear H
            go_wp2
            go_meet
            case rel => exact ⟨_, H', ⟨by have := HJ3.out; first | omega | exact Nat.le_refl _⟩, ⟨by repeat (first | (with_reducible first | exact HB.out | apply below_alloc | apply pw_below_drewN | apply below_drew1) | exact HB.out)⟩⟩
  case rest =>
    clear HC3
    try clear c1
    try clear p2
    try clear c3
    try clear c5
    try clear c5b0
    try clear c6
    try clear c6b0
    try clear c7
    try clear c8
    try clear c8b0
    try clear c10
    try clear c10b0
    try clear c10b1
    try clear c12
    try clear c12b0
    try clear p2
    obtain ⟨kq, HA, HJ2, HB⟩ := hcut
    cases kq with
    | zero => exact absurd HA.out (by simp [bits_Put.j1])
    | succ kj2 =>
      have H := HA.out
      clear HA
      simp only [bits_Put.j1] at H
      by_cases c13 : 0 ≤ a1
      · rw [if_pos c13] at H
        have c13b0 := eq_true c13
        have c13b1 : decide (0 ≤ a1) = true := decide_eq_true c13
        clear c13
        by_cases c14 : (a1 : Int).toNat ≤ 281474976710656
        · rw [if_pos c14] at H
          have c14b0 := eq_true c14
          have c14b1 : decide ((a1 : Int).toNat ≤ 281474976710656) = true := decide_eq_true c14
          clear c14
          obtain ⟨y122, hy122⟩ : ∃ y_ : List Int, y_ = (List.replicate (a1 : Int).toNat 0) := ⟨_, rfl⟩
          replace H : (bits_Put.l0 kj2 a0 a1 y122 a1 0) = some (r1, r2) := by first | (rw [hy122]; with_reducible exact H) | (have H2_ := (Option.bind_some _ _).symm.trans H; rw [hy122]; with_reducible exact H2_) | (have H2_ := (Option.bind_some _ _).symm.trans H; with_reducible exact H2_) | with_reducible exact H | (rw [hy122]; exact H) | exact H
          have Ny122 := Aside0.mk hy122
          clear hy122
          have H' := Aside0.mk H
          clear H
          go_wp2_with (first | ((with_reducible refine gate_dst (N := 31) rfl ?_); refine Kd.R_make (Kd.int .u8) _ 5 rfl (N := 31) rfl 24 _ _ rfl a1 rfl rfl Try.underlying24 (.int .u8 0) 1 info5 rfl (by decide) (by omega) 0 (ok := fun _ => True) (okp := fun _ => True) rfl (fun _ hk => hk) trivial (of_decide_eq_true (by first | (with_reducible assumption) | assumption)) (Nat.le_trans (Nat.mul_le_mul_right _ (of_decide_eq_true (by first | (with_reducible assumption) | assumption) : a1.toNat ≤ 281474976710656)) (by omega)) (Below.refl _ _) (Nat.le_refl _) ?_; intro v123 w15 ho16 hb hg_ hnew_; clear hg_ hnew_; (first | rw [← Ny122.out] at ho16 | (simp only [Int.reduceToNat] at ho16; rw [← Ny122.out] at ho16)); have n0_ := Aside0.mk (Kd.R_lower ho16 (below_size (by repeat (first | (with_reducible first | exact HB.out | apply below_alloc | apply pw_below_drewN | apply below_drew1) | exact HB.out)))); have n1_ := Aside0.mk (below_step (by repeat (first | (with_reducible first | exact HB.out | apply below_alloc | apply pw_below_drewN | apply below_drew1) | exact HB.out)) hb); clear HB; have HO124 := n0_; have HB := n1_; clear n0_ n1_; clear hb ho16))
          go_loopg [33] kj2 (fun kq v33 w' => ∃ (x6_2 : List Int) (x33_2 : Int), v33 = .int .i64 x33_2 ∧ Aside0 (bits_Put.l0 kq a0 a1 x6_2 a1 x33_2 = some (r1, r2)) ∧ Aside0 (kq ≤ kj2) ∧ Aside0 (Kd.R (Kd.int .u8) 5 w' w.heap.size (fun _ => True) v123 x6_2) ∧ Aside0 (Below w.heap.size w w'))
          case atStart => exact ⟨(y122), (0), (by first | rfl | (simp; done) | (simp [*]; done)), H', ⟨Nat.le_refl _⟩, ⟨by (with_reducible repeat (first | apply Kd.R_alloc | apply Kd.R_drewN | apply Kd.R_drew)); exact HO124.out⟩, ⟨by repeat (first | (with_reducible first | exact HB.out | apply below_alloc | apply pw_below_drewN | apply below_drew1) | exact HB.out)⟩⟩
          case round =>
            clear H'
            try clear c1
            try clear p2
            try clear c3
            try clear c5
            try clear c5b0
            try clear c6
            try clear c6b0
            try clear c7
            try clear c8
            try clear c8b0
            try clear c10
            try clear c10b0
            try clear c10b1
            try clear c12
            try clear c12b0
            try clear c13
            try clear c13b0
            try clear c13b1
            try clear c14
            try clear c14b0
            try clear c14b1
            try clear p2
            obtain ⟨x6_2, x33_2, rfl, HA, HK2, HO_6, HB⟩ := hrel
            cases gk with
            | zero => exact absurd HA.out (by simp [bits_Put.l0])
            | succ k2 =>
              have H := HA.out
              clear HA
              simp only [bits_Put.l0] at H
              by_cases c17 : x33_2 < a1
              · rw [if_pos c17] at H
                have c17b0 : decide (x33_2 < a1) = true := decide_eq_true c17
                clear c17
                obtain ⟨ji18, hji18⟩ : ∃ j_ : Int, (IntKind.u64.wrap (8 * (IntKind.u64.wrap (x33_2)))) = j_ := ⟨_, rfl⟩
                replace H : (if 0 ≤ (ji18) then (if 0 ≤ (wrap64 ((wrap64 (a1 - 1)) - x33_2)) then (if (wrap64 ((wrap64 (a1 - 1)) - x33_2)) < (x6_2.length : Int) then (bits_Put.l0 k2 a0 a1 (x6_2.set ((wrap64 ((wrap64 (a1 - 1)) - x33_2)) : Int).toNat ((shr .i64 a0 (ji18)) % 256)) a1 (wrap64 (x33_2 + 1))) else (none)) else (none)) else (none)) = some (r1, r2) := by first | (rw [hji18] at H; exact H) | (simp only [hji18] at H ⊢; exact H)
                by_cases c19 : 0 ≤ (ji18)
                · rw [if_pos c19] at H
                  have c19b0 := eq_true c19
                  have c19b1 : decide (0 ≤ (ji18)) = true := decide_eq_true c19
                  clear c19
                  obtain ⟨ji20, hji20⟩ : ∃ j_ : Int, (shr .i64 a0 (ji18)) = j_ := ⟨_, rfl⟩
                  replace H : (if 0 ≤ (wrap64 ((wrap64 (a1 - 1)) - x33_2)) then (if (wrap64 ((wrap64 (a1 - 1)) - x33_2)) < (x6_2.length : Int) then (bits_Put.l0 k2 a0 a1 (x6_2.set ((wrap64 ((wrap64 (a1 - 1)) - x33_2)) : Int).toNat ((ji20) % 256)) a1 (wrap64 (x33_2 + 1))) else (none)) else (none)) = some (r1, r2) := by first | (rw [hji20] at H; exact H) | (simp only [hji20] at H ⊢; exact H)
                  have hji20_ : (a0 / 2 ^ min (ji18).toNat 64) = ji20 := hji20
                  have hji20z : (ji18) ≤ 64 → (a0 / 2 ^ (ji18).toNat) = ji20 := shr_small hji20
                  obtain ⟨ji21, hji21⟩ : ∃ j_ : Int, (wrap64 ((wrap64 (a1 - 1)) - x33_2)) = j_ := ⟨_, rfl⟩
                  replace H : (if 0 ≤ (ji21) then (if (ji21) < (x6_2.length : Int) then (bits_Put.l0 k2 a0 a1 (x6_2.set ((ji21) : Int).toNat ((ji20) % 256)) a1 (wrap64 (x33_2 + 1))) else (none)) else (none)) = some (r1, r2) := by first | (rw [hji21] at H; exact H) | (simp only [hji21] at H ⊢; exact H)
                  have hji21w : (IntKind.i64.wrap ((wrap64 (a1 - 1)) - x33_2)) = ji21 := (i64_w _).trans hji21
                  by_cases c22 : 0 ≤ (ji21)
                  · rw [if_pos c22] at H
                    have c22b0 : decide (0 ≤ (ji21)) = true := decide_eq_true c22
                    clear c22
                    by_cases c23 : (ji21) < (x6_2.length : Int)
                    · rw [if_pos c23] at H
                      have c23b0 : decide ((ji21) < (x6_2.length : Int)) = true := decide_eq_true c23
                      clear c23
                      obtain ⟨y125, hy125⟩ : ∃ y_ : List Int, y_ = (x6_2.set ((ji21) : Int).toNat ((ji20) % 256)) := ⟨_, rfl⟩
                      replace H : (bits_Put.l0 k2 a0 a1 y125 a1 (wrap64 (x33_2 + 1))) = some (r1, r2) := by first | (rw [hy125]; with_reducible exact H) | (have H2_ := (Option.bind_some _ _).symm.trans H; rw [hy125]; with_reducible exact H2_) | (have H2_ := (Option.bind_some _ _).symm.trans H; with_reducible exact H2_) | with_reducible exact H | (rw [hy125]; exact H) | exact H
                      have Ny125 := Aside0.mk hy125
                      clear hy125
                      have H' := Aside0.mk H
                      clear H
                      have p24 : 0 ≤ ((ji21) : Int) := of_decide_eq_true (by first | (with_reducible assumption) | assumption)
                      have q24 : ((ji21) : Int) < ((x6_2.length : Int) : Int) := of_decide_eq_true (by first | (with_reducible assumption) | assumption)
                      obtain ⟨go24, co24, eo24, gb24, gl24, cl24, HG24⟩ := Kd.R_form HO_6.out (by omega)
                      (first | cases eo24 | (injection eo24 with ea_ en_ ec_; (first | subst ea_ | (injection ea_ with ea_; subst ea_)); subst ec_; clear en_))
                      have GB24 := Aside0.mk gb24
                      have GG24 := Aside0.mk HG24
                      clear gb24 gl24 HG24
                      obtain ⟨hx24_0, hf24_0⟩ := Kd.R_celln 0 HO_6.out ((ji21) : Int) p24 q24
                      replace p24 := eq_true p24
                      replace q24 := eq_true q24
                      have HP25 := Kd.R_putg HO_6.out ((ji21) : Int) ((ji20) % 256)
                      go_wp2_with (first | ((with_reducible refine gate_store (t := 5) (p := 47) rfl ?_); refine store_event (t := 5) (p := 47) (v := ?vo_w26) (w1 := (wr.setCell ⟨go24, ((ji21) : Int).toNat, none⟩ (.int .u8 ((ji20) % 256)))) ?hg ?ho ?hn ?hr ?_; (case ho => rfl); (case hg => rfl); (case hn => rfl); (case hr => first | (go_simp; done) | (go_simp; rfl)); intro w26 hw; have hg : wr.grownBy w26 (some go24) := (by rw [hw]; exact HP25.2); have hp_ : Kd.R (Kd.int .u8) 5 w26 w.heap.size (fun _ => True) (.slice (some ⟨go24, 0, none⟩) x6_2.length co24) y125 := (by rw [hw, Ny125.out]; exact HP25.1); clear HP25; have n0_ := Aside0.mk (hp_); have n1_ := Aside0.mk ((by rw [hw]; exact below_set (HB.out) GB24.out : Below w.heap.size w w26)); clear HO_6; clear HB; have HO_6 := n0_; have HB := n1_; clear n0_ n1_; clear hg hw hp_))
                      go_roundg k2
                      case measure => have := HJ2.out; have := HK2.out; omega
                      case rel => exact ⟨(y125), (wrap64 (x33_2 + 1)), (by first | rfl | (simp; done) | (simp [*]; done)), H', ⟨by have := HJ2.out; have := HK2.out; omega⟩, ⟨by (with_reducible repeat (first | apply Kd.R_alloc | apply Kd.R_drewN | apply Kd.R_drew)); exact HO_6.out⟩, ⟨by repeat (first | (with_reducible first | exact HB.out | apply below_alloc | apply pw_below_drewN | apply below_drew1) | exact HB.out)⟩⟩
                    · rw [if_neg c23] at H
                      exact absurd H (by simp)
                  · rw [if_neg c22] at H
                    exact absurd H (by simp)
                · rw [if_neg c19] at H
                  exact absurd H (by simp)
              · rw [if_neg c17] at H
                have c17b0 : decide (x33_2 < a1) = false := decide_eq_false c17
                clear c17
                simp only [Option.some.injEq, Prod.mk.injEq] at H
                obtain ⟨rfl, rfl⟩ := H
                go_wp2
                go_ret2
                exact ⟨_, by first | rfl | (simp [errW_none, errW_some] <;> rfl) | (simp [*, errW_none, errW_some] <;> rfl), by (with_reducible repeat (first | apply Kd.R_alloc | apply Kd.R_drewN | apply Kd.R_drew)); exact HO_6.out, by repeat (first | (with_reducible first | exact HB.out | apply below_alloc | apply pw_below_drewN | apply below_drew1) | exact HB.out)⟩
        · rw [if_neg c14] at H
          exact absurd H (by simp)
      · rw [if_neg c13] at H
        exact absurd H (by simp)

/-! ### tlv_Number: function 24 -/
def tlv_Number.l0 : Nat → List Int → Option (List Int × Int)
  | 0, _ => none
  | k + 1, x4 => if (x4.length : Int) > 0 then (if 0 < (x4.length : Int) then (if (rd x4 0) = 0 then (if 1 ≤ (x4.length : Int) then (tlv_Number.l0 k (x4.drop (1 : Int).toNat)) else (none)) else (some (x4, 0))) else (none)) else (some (x4, 0))
def tlv_Number.f (k : Nat) (a0 : Int) : Option (List Int × Int) := (bits_Put.f k a0 8).bind fun bt126 => (if bt126.2 = 0 then (tlv_Number.l0 k bt126.1) else (some (([] : List Int), 1)))
theorem tlv_Number.mono_l : ∀ k, (∀ y0, LeO (tlv_Number.l0 k y0) (tlv_Number.l0 (k + 1) y0))
  | 0 => fun _ r h => by simp [tlv_Number.l0] at h
  | k + 1 => by
    have ih0 := tlv_Number.mono_l k
    · intro y0
      unfold tlv_Number.l0
      repeat' first
      | (with_reducible exact ih0 _)
      | (with_reducible exact bits_Put.mono _ _ _)
      | (with_reducible exact LeO.refl _)
      | (with_reducible exact LeO.none _)
      | (with_reducible refine LeO.ite ?_ ?_)
      | (with_reducible refine LeO.bind ?_ (fun _ => ?_))
      | exact ih0 _
      | exact bits_Put.mono _ _ _
      | exact LeO.none _
      | refine LeO.ite ?_ ?_
      | refine LeO.bind ?_ (fun _ => ?_)
theorem tlv_Number.mono : ∀ a0 k, LeO (tlv_Number.f k a0) (tlv_Number.f (k + 1) a0) := by
  intro a0 k
  have ih0 := tlv_Number.mono_l k
  unfold tlv_Number.f
  repeat' first
      | (with_reducible exact ih0 _)
      | (with_reducible exact bits_Put.mono _ _ _)
      | (with_reducible exact LeO.refl _)
      | (with_reducible exact LeO.none _)
      | (with_reducible refine LeO.ite ?_ ?_)
      | (with_reducible refine LeO.bind ?_ (fun _ => ?_))
      | exact ih0 _
      | exact bits_Put.mono _ _ _
      | exact LeO.none _
      | refine LeO.ite ?_ ?_
      | refine LeO.bind ?_ (fun _ => ?_)
set_option maxHeartbeats 8000000 in
set_option maxRecDepth 100000 in
theorem tlv_Number.calls (k : Nat) (a0 : Int) (r1 : List Int) (r2 : Int) (w : World) (h : tlv_Number.f k a0 = some (r1, r2)) :
    Calls Try.prog 24 #[.int .i64 a0] w fun e w' => ∃ v0_ : Value, e = .returned (.tuple #[v0_, .int .i64 r2]) ∧ Kd.Q (Kd.int .u8) 5 w' w.heap.size (fun _ => True) v0_ r1 ∧ Below w.heap.size w w' := by
  have HB := Aside0.mk (Below.refl w.heap.size w)
  have H : ((bits_Put.f k a0 8).bind fun bt126 => (if bt126.2 = 0 then (tlv_Number.l0 k bt126.1) else (some (([] : List Int), 1)))) = some (r1, r2) := h
  clear h
  replace H := Option.bind_eq_some_iff.mp H
  obtain ⟨⟨t126, t127⟩, A20, H⟩ := H
  replace H : (if t127 = 0 then (tlv_Number.l0 k t126) else (some (([] : List Int), 1))) = some (r1, r2) := H
  have A2 := Aside0.mk A20
  clear A20
  by_cases c3 : t127 = 0
  · rw [if_pos c3] at H
    have c3b0 : (t127 == 0) = true := beq_iff_eq.mpr c3
    have c3b1 : (t127 != 0) = false := bne_eq_false_iff_eq.mpr c3
    clear c3
    have H' := Aside0.mk H
    clear H
    go_enter Try.func24, Try.ntmps24
    go_wp2_with (first | ((with_reducible refine gate_callee (f := 37) rfl ?_); refine goesL_ (some 8) rfl rfl Try.func37 (by kernel_rfl) rfl #[.int .i64 a0, .int .i64 8] rfl (by (try simp only [List.map_toArray, List.map_cons, List.map_nil]); first | done | rfl | (simp only [List.length_drop, List.length_take]; rfl)) ?_; (with_reducible refine (bits_Put.calls k a0 8 t126 t127 _ A2.out).mono ?_); rintro e w4 ⟨v128, rfl, ho0, hb⟩; refine ⟨_, rfl, ?_⟩; have n0_ := Aside0.mk (Kd.R_lower ho0 (below_size (by repeat (first | (with_reducible first | exact HB.out | apply below_alloc | apply pw_below_drewN | apply below_drew1) | exact HB.out)))); have n1_ := Aside0.mk (below_step (by repeat (first | (with_reducible first | exact HB.out | apply below_alloc | apply pw_below_drewN | apply below_drew1) | exact HB.out)) hb); clear HB; have HO129 := n0_; have HB := n1_; clear n0_ n1_; (try clear hb); (try clear hb2); (try clear hk); (try clear hi); (try clear ho0); (try clear A2)))
    go_loopg [4] k (fun kq v4 w' => ∃ (x4_1 : List Int), Aside0 (tlv_Number.l0 kq x4_1 = some (r1, r2)) ∧ Aside0 (kq ≤ k) ∧ Aside0 (Kd.Q (Kd.int .u8) 5 w' w.heap.size (fun _ => True) v4 x4_1) ∧ Aside0 (Below w.heap.size w w'))
    case atStart => exact ⟨(t126), H', ⟨Nat.le_refl _⟩, ⟨Kd.Q_of_R (by (with_reducible repeat (first | apply Kd.R_alloc | apply Kd.R_drewN | apply Kd.R_drew)); exact HO129.out)⟩, ⟨by repeat (first | (with_reducible first | exact HB.out | apply below_alloc | apply pw_below_drewN | apply below_drew1) | exact HB.out)⟩⟩
    case round =>
      clear H'
      try clear c2
      try clear p2
      try clear c3
      try clear c3b0
      try clear c3b1
      obtain ⟨x4_1, HA, HK1, HO_4, HB⟩ := hrel
      cases gk with
      | zero => exact absurd HA.out (by simp [tlv_Number.l0])
      | succ k1 =>
        have H := HA.out
        clear HA
        simp only [tlv_Number.l0] at H
        by_cases c5 : (x4_1.length : Int) > 0
        · rw [if_pos c5] at H
          have c5b0 : decide (0 < (x4_1.length : Int)) = true := decide_eq_true c5
          have c5b1 : decide (0 < x4_1.length) = true := decide_eq_true (by omega)
          clear c5
          by_cases c6 : 0 < (x4_1.length : Int)
          · rw [if_pos c6] at H
            have c6b0 : decide (0 < (x4_1.length : Int)) = true := decide_eq_true c6
            have c6b1 : decide (0 < x4_1.length) = true := decide_eq_true (by omega)
            clear c6
            by_cases c7 : (rd x4_1 0) = 0
            · rw [if_pos c7] at H
              have c7b0 : ((rd x4_1 0) == 0) = true := beq_iff_eq.mpr c7
              have c7b1 : ((rd x4_1 0) != 0) = false := bne_eq_false_iff_eq.mpr c7
              clear c7
              by_cases c8 : 1 ≤ (x4_1.length : Int)
              · rw [if_pos c8] at H
                have c8b0 := eq_true c8
                have c8b1 : decide (1 ≤ (x4_1.length : Int)) = true := decide_eq_true c8
                clear c8
                obtain ⟨y131, hy131⟩ : ∃ y_ : List Int, y_ = (x4_1.drop (1 : Int).toNat) := ⟨_, rfl⟩
                replace H : (tlv_Number.l0 k1 y131) = some (r1, r2) := by first | (rw [hy131]; with_reducible exact H) | (have H2_ := (Option.bind_some _ _).symm.trans H; rw [hy131]; with_reducible exact H2_) | (have H2_ := (Option.bind_some _ _).symm.trans H; with_reducible exact H2_) | with_reducible exact H | (rw [hy131]; exact H) | exact H
                have Ny131 := Aside0.mk hy131
                clear hy131
                have H' := Aside0.mk H
                clear H
                obtain ⟨Ao9, co9, eo9, _⟩ := Kd.Q_slice HO_4.out
                subst eo9
                have p130 : 0 ≤ (0 : Int) := (by omega)
                have q130 : 0 < (x4_1.length : Int) := of_decide_eq_true (by first | (with_reducible assumption) | assumption)
                obtain ⟨ad130, e130, hx130_0⟩ := Kd.at_int (Kd.Q_reads' HO_4.out).2.2 0 p130 q130
                cases e130
                have qi130 : (0 < x4_1.length) = True := eq_true (by omega)
                (try rw [show ((0 : Int)).toNat = 0 from rfl] at hx130_0)
                (try rw [Addr.add_zero'] at hx130_0)
                replace p130 := eq_true p130
                replace q130 := eq_true q130
                have q10 : (1 : Int) ≤ ((x4_1.length : Int) : Int) := of_decide_eq_true (by first | (with_reducible assumption) | assumption)
                obtain ⟨i010, hi010, _, hsz10, _⟩ := info_parts info5
                have hcut10 := cut_from (P := Try.prog) 24 5 .i64 Try.underlying24 hi010 1 hsz10 (some ad130) x4_1.length co9 1 (by omega) q10
                have hr10 := Kd.Q_drop (k := (1 : Int).toNat) HO_4.out (by omega)
                obtain ⟨A10, hA10⟩ : ∃ A1, A1 = (if co9 = (1 : Int).toNat then (some ad130) else ((some ad130) : Option Addr).map (·.add ((1 : Int).toNat * 1))) := ⟨_, rfl⟩
                obtain ⟨c10, hc10⟩ : ∃ c1, c1 = co9 - (1 : Int).toNat := ⟨_, rfl⟩
                have hy10 : y131.length = x4_1.length - (1 : Int).toNat := (by rw [Ny131.out, List.length_drop])
                rw [← Ny131.out] at hr10
                rw [← hy10, ← hA10, ← hc10] at hcut10
                replace hr10 : Kd.Q (Kd.int .u8) 5 wr w.heap.size (fun _ => True) (.slice A10 y131.length c10) y131 := (by rw [hA10, hc10, hy10]; exact hr10)
                have HE10 : Aside0 ((Value.slice A10 y131.length c10).ownBlock = (.slice (some ad130) x4_1.length co9 : Value).ownBlock) := ⟨by rw [hA10]; split <;> (cases ((some ad130) : Option Addr) <;> rfl)⟩
                clear hy10 hi010 hsz10 HO_4 hA10 hc10
                have HO133 := Aside0.mk hr10
                clear hr10
                replace q10 := eq_true q10
                go_wp2
                go_roundg k1
                case measure => have := HK1.out; omega
                case rel => exact ⟨(y131), H', ⟨by have := HK1.out; omega⟩, ⟨by (with_reducible repeat (first | apply Kd.Q_alloc | apply Kd.Q_drewN | apply Kd.Q_drew)); exact HO133.out⟩, ⟨by repeat (first | (with_reducible first | exact HB.out | apply below_alloc | apply pw_below_drewN | apply below_drew1) | exact HB.out)⟩⟩
              · rw [if_neg c8] at H
                exact absurd H (by simp)
            · rw [if_neg c7] at H
              have c7b0 : ((rd x4_1 0) == 0) = false := beq_eq_false_iff_ne.mpr c7
              have c7b1 : ((rd x4_1 0) != 0) = true := bne_iff_ne.mpr c7
              simp only [Option.some.injEq, Prod.mk.injEq] at H
              obtain ⟨rfl, rfl⟩ := H
              obtain ⟨Ao11, co11, eo11, _⟩ := Kd.Q_slice HO_4.out
              subst eo11
              have p130 : 0 ≤ (0 : Int) := (by omega)
              have q130 : 0 < (x4_1.length : Int) := of_decide_eq_true (by first | (with_reducible assumption) | assumption)
              obtain ⟨ad130, e130, hx130_0⟩ := Kd.at_int (Kd.Q_reads' HO_4.out).2.2 0 p130 q130
              cases e130
              have qi130 : (0 < x4_1.length) = True := eq_true (by omega)
              (try rw [show ((0 : Int)).toNat = 0 from rfl] at hx130_0)
              (try rw [Addr.add_zero'] at hx130_0)
              replace p130 := eq_true p130
              replace q130 := eq_true q130
              go_wp2
              go_ret2
              exact ⟨_, by first | rfl | (simp [errW_none, errW_some] <;> rfl) | (simp [*, errW_none, errW_some] <;> rfl), by (with_reducible repeat (first | apply Kd.Q_alloc | apply Kd.Q_drewN | apply Kd.Q_drew)); exact HO_4.out, by repeat (first | (with_reducible first | exact HB.out | apply below_alloc | apply pw_below_drewN | apply below_drew1) | exact HB.out)⟩
          · rw [if_neg c6] at H
            exact absurd H (by simp)
        · rw [if_neg c5] at H
          have c5b0 : decide (0 < (x4_1.length : Int)) = false := decide_eq_false c5
          have c5b1 : decide (0 < x4_1.length) = false := decide_eq_false (by omega)
          clear c5
          simp only [Option.some.injEq, Prod.mk.injEq] at H
          obtain ⟨rfl, rfl⟩ := H
          obtain ⟨Ao12, co12, eo12, _⟩ := Kd.Q_slice HO_4.out
          subst eo12
          go_wp2
          go_ret2
          exact ⟨_, by first | rfl | (simp [errW_none, errW_some] <;> rfl) | (simp [*, errW_none, errW_some] <;> rfl), by (with_reducible repeat (first | apply Kd.Q_alloc | apply Kd.Q_drewN | apply Kd.Q_drew)); exact HO_4.out, by repeat (first | (with_reducible first | exact HB.out | apply below_alloc | apply pw_below_drewN | apply below_drew1) | exact HB.out)⟩
  · rw [if_neg c3] at H
    have c3b0 : (t127 == 0) = false := beq_eq_false_iff_ne.mpr c3
    have c3b1 : (t127 != 0) = true := bne_iff_ne.mpr c3
    simp only [Option.some.injEq, Prod.mk.injEq] at H
    obtain ⟨rfl, rfl⟩ := H
    go_enter Try.func24, Try.ntmps24
    go_wp2_with (first | ((with_reducible refine gate_callee (f := 37) rfl ?_); refine goesL_ (some 8) rfl rfl Try.func37 (by kernel_rfl) rfl #[.int .i64 a0, .int .i64 8] rfl (by (try simp only [List.map_toArray, List.map_cons, List.map_nil]); first | done | rfl | (simp only [List.length_drop, List.length_take]; rfl)) ?_; (with_reducible refine (bits_Put.calls k a0 8 t126 t127 _ A2.out).mono ?_); rintro e w13 ⟨v128, rfl, ho0, hb⟩; refine ⟨_, rfl, ?_⟩; have n0_ := Aside0.mk (Kd.R_lower ho0 (below_size (by repeat (first | (with_reducible first | exact HB.out | apply below_alloc | apply pw_below_drewN | apply below_drew1) | exact HB.out)))); have n1_ := Aside0.mk (below_step (by repeat (first | (with_reducible first | exact HB.out | apply below_alloc | apply pw_below_drewN | apply below_drew1) | exact HB.out)) hb); clear HB; have HO129 := n0_; have HB := n1_; clear n0_ n1_; (try clear hb); (try clear hb2); (try clear hk); (try clear hi); (try clear ho0); (try clear A2)))
    go_ret2
    exact ⟨_, by first | rfl | (simp [errW_none, errW_some] <;> rfl) | (simp [*, errW_none, errW_some] <;> rfl), Kd.Q_of_R (by first | exact Kd.R_nil _ _ _ _ _ | exact Kd.N_nil _ _ _ _ _ | exact Kd.V_nil _ _ _ _ _ | exact Kd.Q_nil _ _ _ _ _ | exact Kd.S_nil _ _ _ _ _), by repeat (first | (with_reducible first | exact HB.out | apply below_alloc | apply pw_below_drewN | apply below_drew1) | exact HB.out)⟩

end Go.Proofs.Ytekgienbhpknlaa.PL
end
