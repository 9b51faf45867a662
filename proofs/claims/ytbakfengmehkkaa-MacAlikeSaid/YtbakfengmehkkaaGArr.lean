/- Words for blocks of cells known whole, and rows of words. -/
import Derived.Test.YtbakfengmehkkaaProg
import Derived.WalkKit
import Derived.KernelRfl
import Derived.Outline
import Derived.Test.YtbakfengmehkkaaWMore
import Derived.Test.YtbakfengmehkkaaGMake
import Derived.Deep.QuietTactic
import Derived.BigQuiet
import Derived.RegionTactic
import Derived.WalkSpells
import Derived.Laws.Tables
import Derived.Laws.Rows
namespace Go.Proofs.Ytbakfengmehkkaa.G
open Go Go.RowKit Go.Proofs.YtbakfengmehkkaaW.PrintWords Go.Proofs.YtbakfengmehkkaaW.PrintLast Go.Proofs.YtbakfengmehkkaaW.PrintMore
/-- Block b holds these cells. -/
def Blk (W : World) (b : Nat) (cs : Array Value) (t : TypeId) : Prop := W.heap[b]? = some (.cells cs t (0, 0))
theorem Blk.lt {W : World} {b : Nat} {cs : Array Value} {t : TypeId} (h : Blk W b cs t) : b < W.heap.size := (Array.getElem?_eq_some_iff.1 h).1
theorem Blk.new (W : World) (cs : Array Value) (t : TypeId) : Blk (W.alloc (.cells cs t)) W.heap.size cs t := heap_alloc_new W _
theorem Blk.alloc {W : World} {b : Nat} {cs : Array Value} {t : TypeId} (h : Blk W b cs t) (o : Obj) : Blk (W.alloc o) b cs t := (Below.heap_alloc W o b h.lt).trans h
theorem Blk.below {W W' : World} {b B : Nat} {cs : Array Value} {t : TypeId} (h : Blk W b cs t) (hb : Below B W W') (hB : b < B) : Blk W' b cs t := (hb.block b hB).trans h
theorem Blk.cell {W : World} {b : Nat} {cs : Array Value} {t : TypeId} (h : Blk W b cs t) (i : Nat) (v : Value) (hv : cs[i]? = some v) : W.cell? ⟨b, i, none⟩ = some v := by
  simp [World.cell?, show W.heap[b]? = _ from h, hv]
theorem Blk.frozen {W : World} {b : Nat} {cs : Array Value} {t : TypeId} (h : Blk W b cs t) (i : Nat) : W.frozen? ⟨b, i, none⟩ = false := by simp [World.frozen?, show W.heap[b]? = _ from h]
/-- A row of words as cells. -/
def wordsA (l : List Int) : Array Value := (l.map (Value.int .u32)).toArray
def bytesA (l : List Int) : Array Value := (l.map (Value.int .u8)).toArray
theorem wordsA_at (l : List Int) (i : Nat) (h : i < l.length) : (wordsA l)[i]? = some (.int .u32 (l.getD i 0)) := by
  simp [wordsA, h]
theorem bytesA_at (l : List Int) (i : Nat) (h : i < l.length) : (bytesA l)[i]? = some (.int .u8 (l.getD i 0)) := by
  simp [bytesA, h]
theorem wordsA_set (l : List Int) (i : Nat) (v : Int) : (wordsA l).setIfInBounds i (.int .u32 v) = wordsA (l.set i v) := by
  simp [wordsA]
theorem bytesA_set (l : List Int) (i : Nat) (v : Int) : (bytesA l).setIfInBounds i (.int .u8 v) = bytesA (l.set i v) := by
  simp [bytesA]
theorem Blk.put {W : World} {b : Nat} {cs cs' : Array Value} {t : TypeId} (h : Blk W b cs t) (i : Nat) (u : Value) (e : cs.setIfInBounds i u = cs') : Blk (W.setCell ⟨b, i, none⟩ u) b cs' t := blk_put h i u e
theorem Blk.far {W : World} {b : Nat} {cs : Array Value} {t : TypeId} (h : Blk W b cs t) {p : Addr} (hp : b ≠ p.block) (u : Value) : Blk (W.setCell p u) b cs t := blk_far h hp u
theorem Blk.drewN {W : World} {b : Nat} {cs : Array Value} {t : TypeId} (h : Blk W b cs t) (n : Nat) : Blk (W.drewN n) b cs t := h
/-- The table of the constants. -/
def kL : List Int := [0x428a2f98, 0x71374491, 0xb5c0fbcf, 0xe9b5dba5, 0x3956c25b, 0x59f111f1, 0x923f82a4, 0xab1c5ed5,
  0xd807aa98, 0x12835b01, 0x243185be, 0x550c7dc3, 0x72be5d74, 0x80deb1fe, 0x9bdc06a7, 0xc19bf174,
  0xe49b69c1, 0xefbe4786, 0x0fc19dc6, 0x240ca1cc, 0x2de92c6f, 0x4a7484aa, 0x5cb0a9dc, 0x76f988da,
  0x983e5152, 0xa831c66d, 0xb00327c8, 0xbf597fc7, 0xc6e00bf3, 0xd5a79147, 0x06ca6351, 0x14292967,
  0x27b70a85, 0x2e1b2138, 0x4d2c6dfc, 0x53380d13, 0x650a7354, 0x766a0abb, 0x81c2c92e, 0x92722c85,
  0xa2bfe8a1, 0xa81a664b, 0xc24b8b70, 0xc76c51a3, 0xd192e819, 0xd6990624, 0xf40e3585, 0x106aa070,
  0x19a4c116, 0x1e376c08, 0x2748774c, 0x34b0bcb5, 0x391c0cb3, 0x4ed8aa4a, 0x5b9cca4f, 0x682e6ff3,
  0x748f82ee, 0x78a5636f, 0x84c87814, 0x8cc70208, 0x90befffa, 0xa4506ceb, 0xbef9a3f7, 0xc67178f2]
section
variable {P : Program}
theorem wpList_build_as {ops : Array Oper} {rest : List Oper} {o : Oper} {a : Act} {w : World} {Q : Exit → Act → World → Prop} (hg : o.guard = none) (t : TypeId) (parts : Array (Nat × Operand)) (ho : o.op = .build t parts) (cs : Array Value)
    (hf : P.built t (parts.map fun (i, x) => (i, a.eval x)).toList = some cs) (h : wpList P ops Q rest (a.put o.dst (.agg cs)) w) : wpList P ops Q (o :: rest) a w :=
  wpList_build hg t parts ho (by rw [hf]; rfl) (by rw [hf]; exact h)
end
theorem Blk.setRow {W : World} {b : Nat} {cs : Array Value} {t : TypeId} (h : Blk W b cs t) (cs' : Array Value) : Blk (W.setRow b cs') b cs' t := setRow_heap W b cs cs' t _ h
theorem Blk.grown {W W' : World} {b g : Nat} {cs : Array Value} {t : TypeId} (h : Blk W b cs t) (hg : W.grownBy W' (some g)) (hn : b ≠ g) : Blk W' b cs t := blk_grown h hg (fun e => hn (Option.some.inj e))
theorem below_grown {W W' w : World} {B g : Nat} (h : Below B w W) (hg : W.grownBy W' (some g)) (hB : B ≤ g) (hs : B ≤ W.heap.size) : Below B w W' :=
  h.trans ⟨hg.os, hg.tape, hg.output, hg.size, fun k hk => hg.block k (by omega) (fun e => by have := Option.some.inj e; omega)⟩
theorem grown_setRow (W : World) (g : Nat) (cs : Array Value) : W.grownBy (W.setRow g cs) (some g) := ⟨rfl, rfl, rfl, by simp, fun k _ hk => setRow_other W g k cs (fun e => hk (by rw [e]))⟩
section
variable {P : Program}
/-- A whole array is stored into a block that is known whole. -/
theorem wpList_store_blk {ops : Array Oper} {rest : List Oper} {o : Oper} {a : Act} {w : World} {Q : Exit → Act → World → Prop} (hgd : o.guard = none) (ty : TypeId) (x y : Operand) (ho : o.op = .store ty x y)
    (g : Nat) (cells : Array Value) (hx : a.eval x = .pointer (some ⟨g, 0, none⟩)) (hy : a.eval y = .agg cells)
    (t : TypeId) (old : Array Value) (hg : Blk w g old t) (hi : (P.info? ty).map (·.size) = some cells.size)
    (hold : old.size = cells.size) (h1 : cells.all (·.oneCell') = true)
    (h : ∀ W', Blk W' g cells t → w.grownBy W' (some g) → wpList P ops Q rest (a.put o.dst undef) W') : wpList P ops Q (o :: rest) a w :=
  wpList_store_row hgd ty x y ho g cells hx hy t old hg hi hold h1 (h _ (Blk.setRow hg cells) (grown_setRow w g cells))
/-- A whole array is loaded out of a block that is known whole. -/
theorem wpList_load_blk {ops : Array Oper} {rest : List Oper} {o : Oper} {a : Act} {w : World} {Q : Exit → Act → World → Prop} (hgd : o.guard = none) (ty : TypeId) (x : Operand) (ho : o.op = .load ty x)
    (g : Nat) (hx : a.eval x = .pointer (some ⟨g, 0, none⟩)) (t : TypeId) (cs : Array Value) (n : Nat) (e : TypeId) (hg : Blk w g cs t)
    (hu : P.underlying ty = some (.array n e)) (hi : (P.info? ty).map (·.size) = some cs.size)
    (h : wpList P ops Q rest (a.put o.dst (.agg cs)) w) : wpList P ops Q (o :: rest) a w :=
  wpList_load_row hgd ty x ho g hx t cs (0, 0) _ hg hu rfl hi h
end
theorem words_size (l : List Int) : (wordsA l).size = l.length := by simp [wordsA]
theorem bytes_size (l : List Int) : (bytesA l).size = l.length := by simp [bytesA]
theorem words_one (l : List Int) : (wordsA l).all (·.oneCell') = true := by simp [wordsA]; intro x _; rfl
theorem bytes_one (l : List Int) : (bytesA l).all (·.oneCell') = true := by simp [bytesA]; intro x _; rfl
end Go.Proofs.Ytbakfengmehkkaa.G
