/- The walk of sha.Block. -/
import Derived.Test.YtbakfengmehkkaaGRot
import Derived.Test.YtbakfengmehkkaaGSha1
import Derived.Laws.CopyOwn
import Derived.Deep.RegionLaw
import Derived.Deep.RegionHeld3
import Derived.StillTailTactics
namespace Go.Proofs.Ytbakfengmehkkaa.G
open Go Go.RowKit Go.Proofs.YtbakfengmehkkaaW.PrintWords Go.Proofs.YtbakfengmehkkaaW.PrintLast Go.Proofs.YtbakfengmehkkaaW.PrintMore
/-- The next word of the row. -/
def sg (x a b c : Int) : Int := bits .xor .u32 (bits .xor .u32 (rotB x a) (rotB x b)) (x / c)
def wv (l : List Int) (d : Nat) : Int := (l.getD d 0 + sg (l.getD (1 + d) 0) 7 18 8 + l.getD (9 + d) 0 + sg (l.getD (14 + d) 0) 17 19 1024) % 4294967296
/-- The row of words, behind d rounds. -/
def rowAt (m : List Int) : Nat → List Int
  | 0 => m ++ List.replicate 48 0
  | d + 1 => (rowAt m d).set (16 + d) (wv (rowAt m d) d)
/-- The words that one round needs. -/
def r3 (x a b c : Int) : Int := bits .xor .u32 (bits .xor .u32 (rotB x a) (rotB x b)) (rotB x c)
def chB (e f g : Int) : Int := bits .xor .u32 (bits .and .u32 e f) (bits .and .u32 (bits .xor .u32 IntKind.u32.max e) g)
def majB (a b c : Int) : Int := bits .xor .u32 (bits .xor .u32 (bits .and .u32 a b) (bits .and .u32 a c)) (bits .and .u32 b c)
def tA (v : List Int) (x k : Int) : Int := v.getD 7 0 + r3 (v.getD 4 0) 6 11 25 + chB (v.getD 4 0) (v.getD 5 0) (v.getD 6 0) + k + x
def tB (v : List Int) : Int := r3 (v.getD 0 0) 2 13 22 + majB (v.getD 0 0) (v.getD 1 0) (v.getD 2 0)
def stepV (v : List Int) (x k : Int) : List Int := [(tA v x k + tB v) % 4294967296, v.getD 0 0, v.getD 1 0, v.getD 2 0, (v.getD 3 0 + tA v x k) % 4294967296, v.getD 4 0, v.getD 5 0, v.getD 6 0]
/-- The eight words behind t rounds over the row l. -/
def vAt (l h : List Int) : Nat → List Int
  | 0 => h
  | t + 1 => stepV (vAt l h t) (l.getD t 0) (kL.getD t 0)
/-- .. and the first i of them added to those that came in. -/
def addAt (v h : List Int) : Nat → List Int
  | 0 => v
  | i + 1 => (addAt v h i).set i (((addAt v h i).getD i 0 + h.getD i 0) % 4294967296)
/-- What Block answers. -/
def blockR (h m : List Int) : List Int := addAt (vAt (rowAt m 48) h 64) h 8
theorem rowAt_len (m : List Int) (hm : m.length = 16) (d : Nat) : (rowAt m d).length = 64 := by
  induction d with
  | zero => simp [rowAt, hm]
  | succ d ih => rw [rowAt, List.length_set, ih]
theorem vAt_len (l h : List Int) (hh : h.length = 8) (t : Nat) : (vAt l h t).length = 8 := by
  cases t with
  | zero => exact hh
  | succ t => rfl
theorem addAt_len (v h : List Int) (hv : v.length = 8) (i : Nat) : (addAt v h i).length = 8 := by
  induction i with
  | zero => exact hv
  | succ i ih => rw [addAt, List.length_set, ih]
theorem list8 {l : List Int} (h : l.length = 8) : ∃ v0 v1 v2 v3 v4 v5 v6 v7, l = [v0, v1, v2, v3, v4, v5, v6, v7] := by
  match l, h with
  | [v0, v1, v2, v3, v4, v5, v6, v7], _ => exact ⟨v0, v1, v2, v3, v4, v5, v6, v7, rfl⟩
theorem add_lit (b : Nat) (j : Nat) : (⟨b, 0, none⟩ : Addr).add j = ⟨b, j, none⟩ := by unfold Addr.add; split <;> simp_all
theorem four_boxes (hl m : List Int) (w : World) : Blk ((((w.alloc (.cells (wordsA hl) 28)).alloc (.cells (wordsA m) 29)).alloc (.cells #[.int .u32 0, .int .u32 0, .int .u32 0, .int .u32 0, .int .u32 0, .int .u32 0, .int .u32 0, .int .u32 0] 28)).alloc (.cells #[.int .u32 0, .int .u32 0, .int .u32 0, .int .u32 0, .int .u32 0, .int .u32 0, .int .u32 0, .int .u32 0, .int .u32 0, .int .u32 0, .int .u32 0, .int .u32 0, .int .u32 0, .int .u32 0, .int .u32 0, .int .u32 0, .int .u32 0, .int .u32 0, .int .u32 0, .int .u32 0, .int .u32 0, .int .u32 0, .int .u32 0, .int .u32 0, .int .u32 0, .int .u32 0, .int .u32 0, .int .u32 0, .int .u32 0, .int .u32 0, .int .u32 0, .int .u32 0, .int .u32 0, .int .u32 0, .int .u32 0, .int .u32 0, .int .u32 0, .int .u32 0, .int .u32 0, .int .u32 0, .int .u32 0, .int .u32 0, .int .u32 0, .int .u32 0, .int .u32 0, .int .u32 0, .int .u32 0, .int .u32 0, .int .u32 0, .int .u32 0, .int .u32 0, .int .u32 0, .int .u32 0, .int .u32 0, .int .u32 0, .int .u32 0, .int .u32 0, .int .u32 0, .int .u32 0, .int .u32 0, .int .u32 0, .int .u32 0, .int .u32 0, .int .u32 0] 46)) w.heap.size (wordsA hl) 28 ∧ Blk ((((w.alloc (.cells (wordsA hl) 28)).alloc (.cells (wordsA m) 29)).alloc (.cells #[.int .u32 0, .int .u32 0, .int .u32 0, .int .u32 0, .int .u32 0, .int .u32 0, .int .u32 0, .int .u32 0] 28)).alloc (.cells #[.int .u32 0, .int .u32 0, .int .u32 0, .int .u32 0, .int .u32 0, .int .u32 0, .int .u32 0, .int .u32 0, .int .u32 0, .int .u32 0, .int .u32 0, .int .u32 0, .int .u32 0, .int .u32 0, .int .u32 0, .int .u32 0, .int .u32 0, .int .u32 0, .int .u32 0, .int .u32 0, .int .u32 0, .int .u32 0, .int .u32 0, .int .u32 0, .int .u32 0, .int .u32 0, .int .u32 0, .int .u32 0, .int .u32 0, .int .u32 0, .int .u32 0, .int .u32 0, .int .u32 0, .int .u32 0, .int .u32 0, .int .u32 0, .int .u32 0, .int .u32 0, .int .u32 0, .int .u32 0, .int .u32 0, .int .u32 0, .int .u32 0, .int .u32 0, .int .u32 0, .int .u32 0, .int .u32 0, .int .u32 0, .int .u32 0, .int .u32 0, .int .u32 0, .int .u32 0, .int .u32 0, .int .u32 0, .int .u32 0, .int .u32 0, .int .u32 0, .int .u32 0, .int .u32 0, .int .u32 0, .int .u32 0, .int .u32 0, .int .u32 0, .int .u32 0] 46)) (w.heap.size + 1) (wordsA m) 29 ∧ Blk ((((w.alloc (.cells (wordsA hl) 28)).alloc (.cells (wordsA m) 29)).alloc (.cells #[.int .u32 0, .int .u32 0, .int .u32 0, .int .u32 0, .int .u32 0, .int .u32 0, .int .u32 0, .int .u32 0] 28)).alloc (.cells #[.int .u32 0, .int .u32 0, .int .u32 0, .int .u32 0, .int .u32 0, .int .u32 0, .int .u32 0, .int .u32 0, .int .u32 0, .int .u32 0, .int .u32 0, .int .u32 0, .int .u32 0, .int .u32 0, .int .u32 0, .int .u32 0, .int .u32 0, .int .u32 0, .int .u32 0, .int .u32 0, .int .u32 0, .int .u32 0, .int .u32 0, .int .u32 0, .int .u32 0, .int .u32 0, .int .u32 0, .int .u32 0, .int .u32 0, .int .u32 0, .int .u32 0, .int .u32 0, .int .u32 0, .int .u32 0, .int .u32 0, .int .u32 0, .int .u32 0, .int .u32 0, .int .u32 0, .int .u32 0, .int .u32 0, .int .u32 0, .int .u32 0, .int .u32 0, .int .u32 0, .int .u32 0, .int .u32 0, .int .u32 0, .int .u32 0, .int .u32 0, .int .u32 0, .int .u32 0, .int .u32 0, .int .u32 0, .int .u32 0, .int .u32 0, .int .u32 0, .int .u32 0, .int .u32 0, .int .u32 0, .int .u32 0, .int .u32 0, .int .u32 0, .int .u32 0] 46)) (w.heap.size + 1 + 1) (wordsA (List.replicate 8 0)) 28 ∧ Blk ((((w.alloc (.cells (wordsA hl) 28)).alloc (.cells (wordsA m) 29)).alloc (.cells #[.int .u32 0, .int .u32 0, .int .u32 0, .int .u32 0, .int .u32 0, .int .u32 0, .int .u32 0, .int .u32 0] 28)).alloc (.cells #[.int .u32 0, .int .u32 0, .int .u32 0, .int .u32 0, .int .u32 0, .int .u32 0, .int .u32 0, .int .u32 0, .int .u32 0, .int .u32 0, .int .u32 0, .int .u32 0, .int .u32 0, .int .u32 0, .int .u32 0, .int .u32 0, .int .u32 0, .int .u32 0, .int .u32 0, .int .u32 0, .int .u32 0, .int .u32 0, .int .u32 0, .int .u32 0, .int .u32 0, .int .u32 0, .int .u32 0, .int .u32 0, .int .u32 0, .int .u32 0, .int .u32 0, .int .u32 0, .int .u32 0, .int .u32 0, .int .u32 0, .int .u32 0, .int .u32 0, .int .u32 0, .int .u32 0, .int .u32 0, .int .u32 0, .int .u32 0, .int .u32 0, .int .u32 0, .int .u32 0, .int .u32 0, .int .u32 0, .int .u32 0, .int .u32 0, .int .u32 0, .int .u32 0, .int .u32 0, .int .u32 0, .int .u32 0, .int .u32 0, .int .u32 0, .int .u32 0, .int .u32 0, .int .u32 0, .int .u32 0, .int .u32 0, .int .u32 0, .int .u32 0, .int .u32 0] 46)) (w.heap.size + 1 + 1 + 1) (wordsA (List.replicate 64 0)) 46 ∧ Below w.heap.size w ((((w.alloc (.cells (wordsA hl) 28)).alloc (.cells (wordsA m) 29)).alloc (.cells #[.int .u32 0, .int .u32 0, .int .u32 0, .int .u32 0, .int .u32 0, .int .u32 0, .int .u32 0, .int .u32 0] 28)).alloc (.cells #[.int .u32 0, .int .u32 0, .int .u32 0, .int .u32 0, .int .u32 0, .int .u32 0, .int .u32 0, .int .u32 0, .int .u32 0, .int .u32 0, .int .u32 0, .int .u32 0, .int .u32 0, .int .u32 0, .int .u32 0, .int .u32 0, .int .u32 0, .int .u32 0, .int .u32 0, .int .u32 0, .int .u32 0, .int .u32 0, .int .u32 0, .int .u32 0, .int .u32 0, .int .u32 0, .int .u32 0, .int .u32 0, .int .u32 0, .int .u32 0, .int .u32 0, .int .u32 0, .int .u32 0, .int .u32 0, .int .u32 0, .int .u32 0, .int .u32 0, .int .u32 0, .int .u32 0, .int .u32 0, .int .u32 0, .int .u32 0, .int .u32 0, .int .u32 0, .int .u32 0, .int .u32 0, .int .u32 0, .int .u32 0, .int .u32 0, .int .u32 0, .int .u32 0, .int .u32 0, .int .u32 0, .int .u32 0, .int .u32 0, .int .u32 0, .int .u32 0, .int .u32 0, .int .u32 0, .int .u32 0, .int .u32 0, .int .u32 0, .int .u32 0, .int .u32 0] 46)) :=
  ⟨(((Blk.new w _ _).alloc _).alloc _).alloc _, ((by simpa using Blk.new (w.alloc (.cells (wordsA hl) 28)) (wordsA m) 29 : Blk ((w.alloc (.cells (wordsA hl) 28)).alloc (.cells (wordsA m) 29)) (w.heap.size + 1) (wordsA m) 29).alloc _).alloc _, (by simpa using Blk.new ((w.alloc (.cells (wordsA hl) 28)).alloc (.cells (wordsA m) 29)) #[.int .u32 0, .int .u32 0, .int .u32 0, .int .u32 0, .int .u32 0, .int .u32 0, .int .u32 0, .int .u32 0] 28 : Blk (((w.alloc (.cells (wordsA hl) 28)).alloc (.cells (wordsA m) 29)).alloc (.cells #[.int .u32 0, .int .u32 0, .int .u32 0, .int .u32 0, .int .u32 0, .int .u32 0, .int .u32 0, .int .u32 0] 28)) (w.heap.size + 1 + 1) #[.int .u32 0, .int .u32 0, .int .u32 0, .int .u32 0, .int .u32 0, .int .u32 0, .int .u32 0, .int .u32 0] 28).alloc _, (by simpa using Blk.new (((w.alloc (.cells (wordsA hl) 28)).alloc (.cells (wordsA m) 29)).alloc (.cells #[.int .u32 0, .int .u32 0, .int .u32 0, .int .u32 0, .int .u32 0, .int .u32 0, .int .u32 0, .int .u32 0] 28)) #[.int .u32 0, .int .u32 0, .int .u32 0, .int .u32 0, .int .u32 0, .int .u32 0, .int .u32 0, .int .u32 0, .int .u32 0, .int .u32 0, .int .u32 0, .int .u32 0, .int .u32 0, .int .u32 0, .int .u32 0, .int .u32 0, .int .u32 0, .int .u32 0, .int .u32 0, .int .u32 0, .int .u32 0, .int .u32 0, .int .u32 0, .int .u32 0, .int .u32 0, .int .u32 0, .int .u32 0, .int .u32 0, .int .u32 0, .int .u32 0, .int .u32 0, .int .u32 0, .int .u32 0, .int .u32 0, .int .u32 0, .int .u32 0, .int .u32 0, .int .u32 0, .int .u32 0, .int .u32 0, .int .u32 0, .int .u32 0, .int .u32 0, .int .u32 0, .int .u32 0, .int .u32 0, .int .u32 0, .int .u32 0, .int .u32 0, .int .u32 0, .int .u32 0, .int .u32 0, .int .u32 0, .int .u32 0, .int .u32 0, .int .u32 0, .int .u32 0, .int .u32 0, .int .u32 0, .int .u32 0, .int .u32 0, .int .u32 0, .int .u32 0, .int .u32 0] 46 : Blk ((((w.alloc (.cells (wordsA hl) 28)).alloc (.cells (wordsA m) 29)).alloc (.cells #[.int .u32 0, .int .u32 0, .int .u32 0, .int .u32 0, .int .u32 0, .int .u32 0, .int .u32 0, .int .u32 0] 28)).alloc (.cells #[.int .u32 0, .int .u32 0, .int .u32 0, .int .u32 0, .int .u32 0, .int .u32 0, .int .u32 0, .int .u32 0, .int .u32 0, .int .u32 0, .int .u32 0, .int .u32 0, .int .u32 0, .int .u32 0, .int .u32 0, .int .u32 0, .int .u32 0, .int .u32 0, .int .u32 0, .int .u32 0, .int .u32 0, .int .u32 0, .int .u32 0, .int .u32 0, .int .u32 0, .int .u32 0, .int .u32 0, .int .u32 0, .int .u32 0, .int .u32 0, .int .u32 0, .int .u32 0, .int .u32 0, .int .u32 0, .int .u32 0, .int .u32 0, .int .u32 0, .int .u32 0, .int .u32 0, .int .u32 0, .int .u32 0, .int .u32 0, .int .u32 0, .int .u32 0, .int .u32 0, .int .u32 0, .int .u32 0, .int .u32 0, .int .u32 0, .int .u32 0, .int .u32 0, .int .u32 0, .int .u32 0, .int .u32 0, .int .u32 0, .int .u32 0, .int .u32 0, .int .u32 0, .int .u32 0, .int .u32 0, .int .u32 0, .int .u32 0, .int .u32 0, .int .u32 0] 46)) (w.heap.size + 1 + 1 + 1) #[.int .u32 0, .int .u32 0, .int .u32 0, .int .u32 0, .int .u32 0, .int .u32 0, .int .u32 0, .int .u32 0, .int .u32 0, .int .u32 0, .int .u32 0, .int .u32 0, .int .u32 0, .int .u32 0, .int .u32 0, .int .u32 0, .int .u32 0, .int .u32 0, .int .u32 0, .int .u32 0, .int .u32 0, .int .u32 0, .int .u32 0, .int .u32 0, .int .u32 0, .int .u32 0, .int .u32 0, .int .u32 0, .int .u32 0, .int .u32 0, .int .u32 0, .int .u32 0, .int .u32 0, .int .u32 0, .int .u32 0, .int .u32 0, .int .u32 0, .int .u32 0, .int .u32 0, .int .u32 0, .int .u32 0, .int .u32 0, .int .u32 0, .int .u32 0, .int .u32 0, .int .u32 0, .int .u32 0, .int .u32 0, .int .u32 0, .int .u32 0, .int .u32 0, .int .u32 0, .int .u32 0, .int .u32 0, .int .u32 0, .int .u32 0, .int .u32 0, .int .u32 0, .int .u32 0, .int .u32 0, .int .u32 0, .int .u32 0, .int .u32 0, .int .u32 0] 46),
    below_alloc (below_alloc (below_alloc (below_alloc (Below.refl w.heap.size w) _) _) _) _⟩
/-- The boxes of Block: h, the result, the row, v. -/
structure BS (n0 n2 n3 n4 : Nat) (h L v : List Int) (w W : World) : Prop where
  h0 : Blk W n0 (wordsA h) 28
  h2 : Blk W n2 (wordsA (List.replicate 8 0)) 28
  h3 : Blk W n3 (wordsA L) 46
  h4 : Blk W n4 (wordsA v) 28
  hb : Below n0 w W
theorem BS.below {n0 n2 n3 n4 : Nat} {h L v : List Int} {w W W' : World} (s : BS n0 n2 n3 n4 h L v w W) (hb : Below W.heap.size W W') : BS n0 n2 n3 n4 h L v w W' :=
  ⟨s.h0.below hb s.h0.lt, s.h2.below hb s.h2.lt, s.h3.below hb s.h3.lt, s.h4.below hb s.h4.lt, s.hb.trans (hb.mono (Nat.le_of_lt s.h0.lt))⟩
theorem BS.drew {n0 n2 n3 n4 : Nat} {h L v : List Int} {w W : World} (s : BS n0 n2 n3 n4 h L v w W) : BS n0 n2 n3 n4 h L v w W.drew := ⟨s.h0, s.h2, s.h3, s.h4, below_drew1 s.hb⟩
theorem BS.drewN {n0 n2 n3 n4 : Nat} {h L v : List Int} {w W : World} (s : BS n0 n2 n3 n4 h L v w W) (n : Nat) : BS n0 n2 n3 n4 h L v w (W.drewN n) := ⟨s.h0, s.h2, s.h3, s.h4, pw_below_drewN s.hb n⟩
theorem keep_s {n0 n2 n3 n4 : Nat} {h L v : List Int} {w W W' : World} {i j : Nat} {a b : Value} (hb : Below W.heap.size W W') (h1 : W.cell? ⟨n4, i, none⟩ = some a) (h2 : W.cell? ⟨n3, j, none⟩ = some b) (s : Aside0 (BS n0 n2 n3 n4 h L v w W)) :
    W'.cell? ⟨n4, i, none⟩ = some a ∧ W'.cell? ⟨n3, j, none⟩ = some b ∧ Aside0 (BS n0 n2 n3 n4 h L v w W') :=
  ⟨(hb.cell (p := ⟨n4, i, none⟩) s.out.h4.lt).trans h1, (hb.cell (p := ⟨n3, j, none⟩) s.out.h3.lt).trans h2, ⟨s.out.below hb⟩⟩
theorem keep_d {n0 n2 n3 n4 : Nat} {h L v : List Int} {w W : World} {i j : Nat} {a b : Value} (h1 : W.cell? ⟨n4, i, none⟩ = some a) (h2 : W.cell? ⟨n3, j, none⟩ = some b) (s : Aside0 (BS n0 n2 n3 n4 h L v w W)) :
    W.drew.cell? ⟨n4, i, none⟩ = some a ∧ W.drew.cell? ⟨n3, j, none⟩ = some b ∧ Aside0 (BS n0 n2 n3 n4 h L v w W.drew) :=
  ⟨h1, h2, ⟨s.out.drew⟩⟩
set_option maxRecDepth 100000 in
set_option maxHeartbeats 4000000 in
theorem block_any (hl m : List Int) (w : World) (hh : hl.length = 8) (hm : m.length = 16) :
    Calls Try.prog 15 #[.agg (wordsA hl), .agg (wordsA m)] w fun e w' => e = .returned (.agg (wordsA (blockR hl m))) ∧ Below w.heap.size w w' := by
  have sh : (wordsA hl).size = 8 := (words_size hl).trans hh
  have sm : (wordsA m).size = 16 := (words_size m).trans hm
  have oh := words_one hl
  have om := words_one m
  obtain ⟨R, hR⟩ : ∃ R, R = blockR hl m := ⟨_, rfl⟩
  rw [← hR]
  have HR := Aside0.mk hR
  clear hR
  go_enter Try.func15, Try.ntmps15
  go_upto_region 2 with (first | (fail))
  have F := Aside0.mk (four_boxes hl m w)
  obtain ⟨n0, hn0⟩ : ∃ n, n = w.heap.size := ⟨_, rfl⟩
  obtain ⟨n1, hn1⟩ : ∃ n, n = w.heap.size + 1 := ⟨_, rfl⟩
  obtain ⟨n2, hn2⟩ : ∃ n, n = w.heap.size + 1 + 1 := ⟨_, rfl⟩
  obtain ⟨n3, hn3⟩ : ∃ n, n = w.heap.size + 1 + 1 + 1 := ⟨_, rfl⟩
  have HN := Aside0.mk (show n1 = n0 + 1 ∧ n2 = n0 + 2 ∧ n3 = n0 + 3 by omega)
  have HN0 : Aside0 (n0 = w.heap.size) := ⟨hn0⟩
  generalize ((((w.alloc (.cells (wordsA hl) 28)).alloc (.cells (wordsA m) 29)).alloc (.cells #[.int .u32 0, .int .u32 0, .int .u32 0, .int .u32 0, .int .u32 0, .int .u32 0, .int .u32 0, .int .u32 0] 28)).alloc (.cells #[.int .u32 0, .int .u32 0, .int .u32 0, .int .u32 0, .int .u32 0, .int .u32 0, .int .u32 0, .int .u32 0, .int .u32 0, .int .u32 0, .int .u32 0, .int .u32 0, .int .u32 0, .int .u32 0, .int .u32 0, .int .u32 0, .int .u32 0, .int .u32 0, .int .u32 0, .int .u32 0, .int .u32 0, .int .u32 0, .int .u32 0, .int .u32 0, .int .u32 0, .int .u32 0, .int .u32 0, .int .u32 0, .int .u32 0, .int .u32 0, .int .u32 0, .int .u32 0, .int .u32 0, .int .u32 0, .int .u32 0, .int .u32 0, .int .u32 0, .int .u32 0, .int .u32 0, .int .u32 0, .int .u32 0, .int .u32 0, .int .u32 0, .int .u32 0, .int .u32 0, .int .u32 0, .int .u32 0, .int .u32 0, .int .u32 0, .int .u32 0, .int .u32 0, .int .u32 0, .int .u32 0, .int .u32 0, .int .u32 0, .int .u32 0, .int .u32 0, .int .u32 0, .int .u32 0, .int .u32 0, .int .u32 0, .int .u32 0, .int .u32 0, .int .u32 0] 46)) = W0 at *
  rw [← hn3, ← hn2, ← hn1, ← hn0] at F ⊢
  obtain ⟨h0, h1, h2, h3, hb⟩ := F.out
  clear F hn0 hn1 hn2 hn3
  have H0 := Aside0.mk h0
  have H1 := Aside0.mk h1
  have H2 := Aside0.mk h2
  have H3 := Aside0.mk h3
  have HB := Aside0.mk hb
  have HH := Aside0.mk hh
  have HM := Aside0.mk hm
  have OH := Aside0.mk oh
  clear h0 h1 h2 h3 hb hh hm sh sm oh om
  have hp : Aside0 (0 < (m.map (Value.int .u32)).length → some (⟨n3, 0, none⟩ : Addr) = some ⟨n3, 0, none⟩ ∧ ∃ ad, some (⟨n1, 0, none⟩ : Addr) = some ad ∧ ∀ j v, (m.map (Value.int .u32))[j]? = some v → W0.cell? (ad.add j) = some v) :=
    ⟨fun _ => ⟨rfl, _, rfl, fun j v hv => by rw [add_lit]; exact H1.out.cell _ _ (by simpa [wordsA] using hv)⟩⟩
  go_region_law (refine step_copy_splice rfl (.tmp 22) (.tmp 23) 35 35 rfl 27 Try.underlying35 (by kernel_rfl) (some ⟨n3, 0, none⟩) (some ⟨n1, 0, none⟩) 64 64 16 16 rfl rfl n3 0 ((List.replicate 64 0).map (Value.int .u32)) 46 H3.out (m.map (Value.int .u32)) (by rw [List.length_map, HM.out]; rfl) hp.out (by simp [HM.out]) (by intro v hv; obtain ⟨x, _, rfl⟩ := List.mem_map.1 hv; rfl) n3 W0 (below_drew1 (Below.refl _ _)) (Nat.le_refl _) ?_; intro w4 hg4 hb4)
  have h3 : Blk w4 n3 (wordsA (rowAt m 0)) 46 := by
    have e : splice ((List.replicate 64 0).map (Value.int .u32)) 0 (m.map (Value.int .u32)) = (m ++ List.replicate 48 0).map (Value.int .u32) := by
      rw [splice, List.map_append, List.length_map, HM.out]
      rfl
    have g := hg4.out
    rw [e] at g
    exact g
  have h0 : Blk w4 n0 (wordsA hl) 28 := H0.out.below hb4 (by have := HN.out; omega)
  have h2 : Blk w4 n2 (wordsA (List.replicate 8 0)) 28 := H2.out.below hb4 (by have := HN.out; omega)
  have hb := HB.out.trans (hb4.mono (by have := HN.out; omega))
  clear hg4 H0 H1 H2 H3 HB hp
  have H0 := Aside0.mk h0
  have H2 := Aside0.mk h2
  have H3 := Aside0.mk h3
  have HB := Aside0.mk hb
  clear h0 h2 h3 hb hb4
  go_wp2
  go_loopw [6] (fun t6 wr => ∃ d : Nat, t6 = .int .i64 ((16 : Int) + d) ∧ Aside0 (d ≤ 48) ∧ Aside0 (Blk wr n0 (wordsA hl) 28) ∧ Aside0 (Blk wr n2 (wordsA (List.replicate 8 0)) 28) ∧ Aside0 (Blk wr n3 (wordsA (rowAt m d)) 46) ∧ Aside0 (Below n0 w wr)) (fun t6 _ => 64 - (intOf t6).toNat)
  case atStart => exact ⟨0, rfl, ⟨by omega⟩, H0, H2, H3, HB⟩
  case round =>
    clear H0 H2 H3 HB
    obtain ⟨d, rfl, HD, H0, H2, H3, HB⟩ := hrel
    by_cases hd : d < 48
    · have i15 : IntKind.i64.wrap ((16 : Int) + d - 15) = ((1 + d : Nat) : Int) := by simp only [IntKind.wrap, IntKind.signed, IntKind.bits]; simp; omega
      have i2 : IntKind.i64.wrap ((16 : Int) + d - 2) = ((14 + d : Nat) : Int) := by simp only [IntKind.wrap, IntKind.signed, IntKind.bits]; simp; omega
      have i16 : IntKind.i64.wrap ((16 : Int) + d - 16) = (d : Int) := by simp only [IntKind.wrap, IntKind.signed, IntKind.bits]; simp; omega
      have i7 : IntKind.i64.wrap ((16 : Int) + d - 7) = ((9 + d : Nat) : Int) := by simp only [IntKind.wrap, IntKind.signed, IntKind.bits]; simp; omega
      have I16 := Aside0.mk i16
      have I7 := Aside0.mk i7
      clear i16 i7
      have hc15 := H3.out.cell (1 + d) _ (wordsA_at _ _ (by rw [rowAt_len m HM.out]; omega))
      have hc14 := H3.out.cell (14 + d) _ (wordsA_at _ _ (by rw [rowAt_len m HM.out]; omega))
      obtain ⟨x15, hx15⟩ : ∃ x, x = (rowAt m d).getD (1 + d) 0 := ⟨_, rfl⟩
      obtain ⟨x2, hx2⟩ : ∃ x, x = (rowAt m d).getD (14 + d) 0 := ⟨_, rfl⟩
      rw [← hx15] at hc15
      rw [← hx2] at hc14
      have X15 := Aside0.mk hx15
      have X2 := Aside0.mk hx2
      clear hx15 hx2
      have hlt : (16 : Int) + d < 64 := by omega
      have HL := Aside0.mk hd
      clear hd
      go_wp2
      go_quiet (fail)
      go_wp2_with (first
        | (go_at_call 28; refine (rot_any _ _ _ (by decide)).mono ?_; rintro e w' ⟨rfl, rfl⟩))
      obtain ⟨s0, hs0⟩ : ∃ x, x = bits .xor .u32 (bits .xor .u32 (rotB x15 7) (rotB x15 18)) (x15 / 8) := ⟨_, rfl⟩
      obtain ⟨s1, hs1⟩ : ∃ x, x = bits .xor .u32 (bits .xor .u32 (rotB x2 17) (rotB x2 19)) (x2 / 1024) := ⟨_, rfl⟩
      rw [← hs0, ← hs1]
      have S0 := Aside0.mk hs0
      have S1 := Aside0.mk hs1
      clear hs0 hs1 i15 i2 hc15 hc14 hlt
      replace H3 := Aside0.mk (H3.out.drewN nq)
      replace H0 := Aside0.mk (H0.out.drewN nq)
      replace H2 := Aside0.mk (H2.out.drewN nq)
      replace HB := Aside0.mk (pw_below_drewN HB.out nq)
      generalize wr.drewN nq = w5 at *
      have hc16 := H3.out.cell d _ (wordsA_at _ _ (by rw [rowAt_len m HM.out]; have := HD.out; omega))
      have hc7 := H3.out.cell (9 + d) _ (wordsA_at _ _ (by rw [rowAt_len m HM.out]; have := HL.out; omega))
      have hct := H3.out.cell (16 + d) _ (wordsA_at _ _ (by rw [rowAt_len m HM.out]; have := HL.out; omega))
      have hf := H3.out.frozen (16 + d)
      obtain ⟨x16, hx16⟩ : ∃ x, x = (rowAt m d).getD d 0 := ⟨_, rfl⟩
      obtain ⟨x7, hx7⟩ : ∃ x, x = (rowAt m d).getD (9 + d) 0 := ⟨_, rfl⟩
      rw [← hx16] at hc16
      rw [← hx7] at hc7
      have X16 := Aside0.mk hx16
      have X7 := Aside0.mk hx7
      clear hx16 hx7
      generalize (rowAt m d).getD (16 + d) 0 = xt at *
      have i16 := I16.out
      have i7 := I7.out
      have it : ((16 : Int) + d).toNat = 16 + d := by omega
      have it0 : (0 : Int) ≤ (16 : Int) + d := by omega
      have it1 : (16 : Int) + d < 64 := by have := HL.out; omega
      have id1 : (d : Int) < 64 := by have := HL.out; omega
      have id2 : (9 : Int) + d < 64 := by have := HL.out; omega
      have id3 : (0 : Int) ≤ (9 : Int) + d := by omega
      have id4 : ((9 : Int) + d).toNat = 9 + d := by omega
      go_still_tail 15, (by kernel_rfl)
      go_wp2
      go_roundw
      case measure => have := HL.out; simp [intOf]; omega
      case rel =>
        have hn := HN.out
        refine ⟨d + 1, by simp; omega, ⟨by have := HL.out; omega⟩, ⟨blk_drew (H0.out.far (by simp only; omega) _)⟩, ⟨blk_drew (H2.out.far (by simp only; omega) _)⟩, ⟨blk_drew (H3.out.put (16 + d) _ ?_)⟩, ⟨below_drew (HB.out.setCell (p := ⟨n3, 16 + d, none⟩) (by simp only; omega) _)⟩⟩
        rw [wordsA_set, rowAt, wv, sg, sg, ← X16.out, ← X15.out, ← X7.out, ← X2.out, S0.out, S1.out]
    · have hd' : d = 48 := by have := HD.out; omega
      subst hd'
      clear hd HD
      have hsz := H3.out.lt
      go_wp2_with (first
        | (refine wpList_load_blk rfl 28 (.tmp 2) rfl n0 rfl 28 (wordsA hl) 8 27 H0.out Try.underlying28 (by rw [words_size, HH.out]; kernel_rfl) ?_)
        | (refine wpList_store_blk rfl 28 (.tmp 11) (.tmp 68) rfl wr.heap.size (wordsA hl) rfl rfl 28 _ (Blk.new wr _ _) (by rw [words_size, HH.out]; kernel_rfl) (by rw [words_size, HH.out]; try rfl) OH.out ?_
           intro w7 hv hg
           go_loud (have g0 := Aside0.mk ((H0.out.alloc _).grown hg (by have := H0.out.lt; omega)))
           go_loud (have g2 := Aside0.mk ((H2.out.alloc _).grown hg (by have := H2.out.lt; omega)))
           go_loud (have g3 := Aside0.mk ((H3.out.alloc _).grown hg (by have := H3.out.lt; omega)))
           go_loud (have gb := Aside0.mk (below_grown (HB.out.alloc (by have := H0.out.lt; omega) _) hg (by have := H0.out.lt; omega) (by have := H0.out.lt; simp only [World.size_alloc]; omega)))
           go_loud (have gv := Aside0.mk hv)
           clear hv hg H0 H2 H3 HB))
      have hn := HN.out
      have HN4 : Aside0 (n0 < n3 ∧ n2 < n3 ∧ n0 < n2 ∧ n3 < wr.heap.size) := ⟨by omega, by omega, by omega, hsz⟩
      clear hn hsz
      obtain ⟨n4, hn4⟩ : ∃ n4, n4 = wr.heap.size := ⟨_, rfl⟩
      rw [← hn4] at gv HN4 ⊢
      have HV : Aside0 (vAt (rowAt m 48) hl 0 = hl) := ⟨rfl⟩
      obtain ⟨L, hL⟩ : ∃ L, L = rowAt m 48 := ⟨_, rfl⟩
      have HLL : Aside0 (L.length = 64) := ⟨by rw [hL]; exact rowAt_len m HM.out 48⟩
      rw [← hL] at g3
      have HLR := Aside0.mk hL
      have HS : Aside0 (BS n0 n2 n3 n4 hl L (vAt L hl 0) w w7) := ⟨g0.out, g2.out, g3.out, gv.out, gb.out⟩
      clear hn4 hL g0 g2 g3 gb gv HV
      go_loopw [69] (fun t69 wr => ∃ t : Nat, t69 = .int .i64 t ∧ Aside0 (t ≤ 64) ∧ Aside0 (BS n0 n2 n3 n4 hl L (vAt L hl t) w wr)) (fun t69 _ => 64 - (intOf t69).toNat)
      case atStart => exact ⟨0, rfl, ⟨by omega⟩, HS⟩
      case round =>
        clear HS
        obtain ⟨t, rfl, HT, HS⟩ := hrel
        by_cases ht : t < 64
        · obtain ⟨v0, v1, v2, v3, v4, v5, v6, v7, hv⟩ := list8 (vAt_len L hl HH.out t)
          have HV := Aside0.mk hv
          replace HS : Aside0 (BS n0 n2 n3 n4 hl L [v0, v1, v2, v3, v4, v5, v6, v7] w wr) := ⟨by rw [← hv]; exact HS.out⟩
          clear hv
          have hc0 : wr.cell? ⟨n4, 0, none⟩ = some (.int .u32 v0) := HS.out.h4.cell 0 _ rfl
          have hc1 : wr.cell? ⟨n4, 1, none⟩ = some (.int .u32 v1) := HS.out.h4.cell 1 _ rfl
          have hc2 : wr.cell? ⟨n4, 2, none⟩ = some (.int .u32 v2) := HS.out.h4.cell 2 _ rfl
          have hc3 : wr.cell? ⟨n4, 3, none⟩ = some (.int .u32 v3) := HS.out.h4.cell 3 _ rfl
          have hc4 : wr.cell? ⟨n4, 4, none⟩ = some (.int .u32 v4) := HS.out.h4.cell 4 _ rfl
          have hc5 : wr.cell? ⟨n4, 5, none⟩ = some (.int .u32 v5) := HS.out.h4.cell 5 _ rfl
          have hc6 : wr.cell? ⟨n4, 6, none⟩ = some (.int .u32 v6) := HS.out.h4.cell 6 _ rfl
          have hc7 : wr.cell? ⟨n4, 7, none⟩ = some (.int .u32 v7) := HS.out.h4.cell 7 _ rfl
          have hcl := HS.out.h3.cell t _ (wordsA_at _ _ (by rw [HLL.out]; exact ht))
          obtain ⟨x, hx⟩ : ∃ x, x = L.getD t 0 := ⟨_, rfl⟩
          rw [← hx] at hcl
          have HX := Aside0.mk hx
          have ht0 : (0 : Int) ≤ t := Int.natCast_nonneg _
          have ht1 : (t : Int) < 64 := by omega
          have HTL := Aside0.mk ht
          clear ht hx
          go_wp2
          go_quiet (fail)
          replace HS := Aside0.mk (HS.out.drewN nq)
          clear hc0 hc1 hc2 hc3 hc4 hc5 hc6 hc7 hcl
          generalize wr.drewN nq = w5 at *
          have hc7 : w5.cell? ⟨n4, 7, none⟩ = some (.int .u32 v7) := HS.out.h4.cell 7 _ rfl
          have hcl : w5.cell? ⟨n3, t, none⟩ = some (.int .u32 x) := by rw [HX.out]; exact HS.out.h3.cell t _ (wordsA_at _ _ (by rw [HLL.out]; exact HTL.out))
          obtain ⟨k, hk⟩ : ∃ k, k = kL.getD t 0 := ⟨_, rfl⟩
          have HK := Aside0.mk hk
          have HKC : ∀ W : World, Calls Try.prog 29 #[.int .i64 t] W fun e w' => e = .returned (.int .u32 k) ∧ Below W.heap.size W w' := fun W => by
            have := constant_any t W ht0 ht1
            rwa [Int.toNat_natCast, ← hk] at this
          have HC := Aside0.mk HKC
          clear hk HKC
          go_wp2
          go_region_held3 (fun W' => W'.cell? ⟨n4, 7, none⟩ = some (.int .u32 v7) ∧ W'.cell? ⟨n3, t, none⟩ = some (.int .u32 x) ∧ Aside0 (BS n0 n2 n3 n4 hl L [v0, v1, v2, v3, v4, v5, v6, v7] w W'))
            (first
              | (go_split_ands; refine keep_s hb8 ?_ ?_ ?_ <;> assumption)
              | (refine keep_s hb8 ?_ ?_ ?_ <;> assumption)
              | assumption
              | exact keep_d (by assumption) (by assumption) (by assumption)
              | go_keep)
            (first
              | (go_at_call 28; refine (rot_any _ _ _ (by decide)).mono ?_; rintro e w' ⟨rfl, rfl⟩)
              | (go_at_call 29; refine (HC.out _).mono ?_; rintro e w8 ⟨rfl, hb8⟩))
          replace HS : Aside0 (BS n0 n2 n3 n4 hl L [v0, v1, v2, v3, v4, v5, v6, v7] w w8) := by go_split_ands; assumption
          clear hb8 hc7 hcl
          have hc3 : w8.cell? ⟨n4, 3, none⟩ = some (.int .u32 v3) := HS.out.h4.cell 3 _ rfl
          go_wp2_with (first
            | (go_at_call 28; refine (rot_any _ _ _ (by decide)).mono ?_; rintro e w' ⟨rfl, rfl⟩)
            | (refine wpList_store_blk rfl 28 (.tmp 11) (.tmp 144) rfl n4 (wordsA [_, _, _, _, _, _, _, _]) rfl rfl 28 (wordsA [v0, v1, v2, v3, v4, v5, v6, v7]) HS.out.h4 (by kernel_rfl) rfl (words_one _) ?_
               intro w9 hv hg
               have hn := HN4.out
               have g0 := Aside0.mk (HS.out.h0.grown hg (by omega))
               have g2 := Aside0.mk (HS.out.h2.grown hg (by omega))
               have g3 := Aside0.mk (HS.out.h3.grown hg (by omega))
               have gb := Aside0.mk (below_grown HS.out.hb hg (by omega) (by have := HS.out.h0.lt; omega))
               have gv := Aside0.mk hv
               clear hn hv hg HS))
          go_roundw
          case measure => have := HTL.out; simp [intOf]; omega
          case rel =>
            refine ⟨t + 1, by simp, ⟨by have := HTL.out; omega⟩, ⟨⟨g0.out, g2.out, g3.out, ?_, gb.out⟩⟩⟩
            have e := gv.out
            rw [vAt, HV.out, ← HX.out, ← HK.out]
            exact e
        · have HTE : Aside0 (t = 64) := ⟨by have := HT.out; omega⟩
          have ht2 : ¬ (t : Int) < 64 := by omega
          replace HS : Aside0 (BS n0 n2 n3 n4 hl L (vAt L hl 64) w wr) := ⟨by rw [← HTE.out]; exact HS.out⟩
          clear ht HT
          obtain ⟨V, hV⟩ : ∃ V, V = vAt L hl 64 := ⟨_, rfl⟩
          have HLENV : Aside0 (V.length = 8) := ⟨by rw [hV]; exact vAt_len L hl HH.out 64⟩
          rw [← hV] at HS
          have HVV := Aside0.mk hV
          replace HS : Aside0 (BS n0 n2 n3 n4 hl L (addAt V hl 0) w wr) := HS
          clear hV
          go_wp2
          go_loopw [146] (fun t146 wr => ∃ i : Nat, t146 = .int .i64 i ∧ Aside0 (i ≤ 8) ∧ Aside0 (BS n0 n2 n3 n4 hl L (addAt V hl i) w wr)) (fun t146 _ => 8 - (intOf t146).toNat)
          case atStart => exact ⟨0, rfl, ⟨by omega⟩, HS⟩
          case round =>
            clear HS
            obtain ⟨i, rfl, HI, HS⟩ := hrel
            by_cases hi : i < 8
            · have hcv := HS.out.h4.cell i _ (wordsA_at _ _ (by rw [addAt_len V hl HLENV.out]; exact hi))
              have hch := HS.out.h0.cell i _ (wordsA_at _ _ (by rw [HH.out]; exact hi))
              have hf := HS.out.h4.frozen i
              obtain ⟨x, hx⟩ : ∃ x, x = (addAt V hl i).getD i 0 := ⟨_, rfl⟩
              obtain ⟨y, hy⟩ : ∃ y, y = hl.getD i 0 := ⟨_, rfl⟩
              rw [← hx] at hcv
              rw [← hy] at hch
              have HX := Aside0.mk hx
              have HY := Aside0.mk hy
              have hi0 : (0 : Int) ≤ i := Int.natCast_nonneg _
              have hi1 : (i : Int) < 8 := by omega
              have HIL := Aside0.mk hi
              clear hi hx hy
              go_wp2
              go_still_tail 8, (by kernel_rfl)
              go_wp2
              go_roundw
              case measure => have := HIL.out; simp [intOf]; omega
              case rel =>
                have hn := HN4.out
                refine ⟨i + 1, by simp, ⟨by have := HIL.out; omega⟩, ⟨⟨blk_drew (HS.out.h0.far (by simp only; have := HS.out.h4.lt; omega) _), blk_drew (HS.out.h2.far (by simp only; omega) _), blk_drew (HS.out.h3.far (by simp only; omega) _), blk_drew (HS.out.h4.put i _ ?_), below_drew (HS.out.hb.setCell (p := ⟨n4, i, none⟩) (by simp only; omega) _)⟩⟩⟩
                rw [wordsA_set, addAt, ← HX.out, ← HY.out]
            · have hi' : i = 8 := by have := HI.out; omega
              subst hi'
              clear hi HI
              obtain ⟨R8, hR8⟩ : ∃ R8, R8 = addAt V hl 8 := ⟨_, rfl⟩
              have HRR : Aside0 (R8 = R) := ⟨by rw [HR.out, blockR, hR8, HVV.out, HLR.out]⟩
              have HRL : Aside0 (R8.length = 8) := ⟨by rw [hR8]; exact addAt_len V hl HLENV.out 8⟩
              rw [← hR8] at HS
              clear hR8
              go_wp2_with (first
                | (refine wpList_load_blk rfl 28 (.tmp 11) rfl n4 rfl 28 (wordsA R8) 8 27 HS.out.h4 Try.underlying28 (by rw [words_size, HRL.out]; kernel_rfl) ?_)
                | (refine wpList_store_blk rfl 28 (.tmp 4) (.tmp 158) rfl n2 (wordsA R8) rfl rfl 28 _ HS.out.h2 (by rw [words_size, HRL.out]; kernel_rfl) (by rw [words_size, words_size, HRL.out]; rfl) (words_one _) ?_
                   intro w9 hv hg
                   have hn := HN4.out
                   have gb := Aside0.mk (below_grown HS.out.hb hg (by omega) (by have := HS.out.h0.lt; omega))
                   have gv := Aside0.mk hv
                   clear hn hv hg HS))
              refine bodyPost_ret (v := .agg (wordsA R8)) (results_cell_row (by rfl) _ _ n2 28 _ (0, 0) _ (by rfl) gv.out Try.underlying28 rfl (by rw [words_size, HRL.out]; kernel_rfl)) rfl ⟨by rw [HRR.out], by rw [← HN0.out]; exact gb.out⟩
end Go.Proofs.Ytbakfengmehkkaa.G
