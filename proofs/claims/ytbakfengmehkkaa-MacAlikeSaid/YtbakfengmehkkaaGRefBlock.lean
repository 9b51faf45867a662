/- The walk of gatelineref02.Block: it answers what sha.Block answers. -/
import Derived.Test.YtbakfengmehkkaaQSha
import Derived.Test.YtbakfengmehkkaaGAppend
namespace Go.Proofs.Ytbakfengmehkkaa.G
open Go Go.RowKit Go.Proofs.Ytbakfengmehkkaa.PL Go.Proofs.Ytbakfengmehkkaa.Q Go.Proofs.YtbakfengmehkkaaW.PrintWords Go.Proofs.YtbakfengmehkkaaW.PrintLast Go.Proofs.YtbakfengmehkkaaW.PrintMore
theorem two_any (x i j c : Int) (w : World) (h0 : 0 ≤ x) (h1 : x < 4294967296) (hi : InRot i) (hj : InRot j) (hc : 0 < c) : Calls Try.prog 30 #[.int .u32 x, .int .i64 i, .int .i64 j, .int .u32 c] w fun e w' => e = .returned (.int .u32 (sg x i j c)) ∧ ∃ n, w' = w.drewN n := by
  obtain ⟨K, h⟩ := two_ev x i j c h0 h1 hi hj hc
  refine (gatelineref02_two.calls K x i j c _ w (h K (Nat.le_refl _))).mono ?_
  rintro e w' ⟨rfl, ⟨hd⟩⟩
  exact ⟨rfl, hd⟩
theorem three_any (x a b c : Int) (w : World) (h0 : 0 ≤ x) (h1 : x < 4294967296) (ha : InRot a) (hb : InRot b) (hc : InRot c) : Calls Try.prog 32 #[.int .u32 x, .int .i64 a, .int .i64 b, .int .i64 c] w fun e w' => e = .returned (.int .u32 (r3 x a b c)) ∧ ∃ n, w' = w.drewN n := by
  obtain ⟨K, h⟩ := three_ev x a b c h0 h1 ha hb hc
  refine (gatelineref02_three.calls K x a b c _ w (h K (Nat.le_refl _))).mono ?_
  rintro e w' ⟨rfl, ⟨hd⟩⟩
  exact ⟨rfl, hd⟩
theorem pick_any (e f g : Int) (w : World) (he : 0 ≤ e ∧ e < 4294967296) (hf : 0 ≤ f ∧ f < 4294967296) (hg : 0 ≤ g ∧ g < 4294967296) : Calls Try.prog 33 #[.int .u32 e, .int .u32 f, .int .u32 g] w fun q w' => q = .returned (.int .u32 (chB e f g)) ∧ ∃ n, w' = w.drewN n := by
  obtain ⟨K, h⟩ := pick_ev e f g he.1 he.2 hf.1 hf.2 hg.1 hg.2
  refine (gatelineref02_pick.calls K e f g _ w (h K (Nat.le_refl _))).mono ?_
  rintro q w' ⟨rfl, ⟨hd⟩⟩
  exact ⟨rfl, hd⟩
theorem most_any (e f g : Int) (w : World) (he : 0 ≤ e ∧ e < 4294967296) (hf : 0 ≤ f ∧ f < 4294967296) (hg : 0 ≤ g ∧ g < 4294967296) : Calls Try.prog 34 #[.int .u32 e, .int .u32 f, .int .u32 g] w fun q w' => q = .returned (.int .u32 (majB e f g)) ∧ ∃ n, w' = w.drewN n := by
  obtain ⟨K, h⟩ := most_ev e f g he.1 he.2 hf.1 hf.2 hg.1 hg.2
  refine (gatelineref02_most.calls K e f g _ w (h K (Nat.le_refl _))).mono ?_
  rintro q w' ⟨rfl, ⟨hd⟩⟩
  exact ⟨rfl, hd⟩
-- the row, told from its end
theorem getD_set_ne {l : List Int} {i j : Nat} (v : Int) (h : i ≠ j) : (l.set j v).getD i 0 = l.getD i 0 := by
  simp [List.getD_eq_getElem?_getD, Ne.symm h]
theorem getD_set_self {l : List Int} {j : Nat} (v : Int) (h : j < l.length) : (l.set j v).getD j 0 = v := by
  simp [List.getD_eq_getElem?_getD, h]
theorem take_getD (l : List Int) {j t : Nat} (h : j < t) : (l.take t).getD j 0 = l.getD j 0 := by
  simp [List.getD_eq_getElem?_getD, h]
theorem row_old (m : List Int) (i d : Nat) (h : i < 16 + d) : ∀ k, (rowAt m (d + k)).getD i 0 = (rowAt m d).getD i 0
  | 0 => rfl
  | k + 1 => by rw [← Nat.add_assoc, rowAt, getD_set_ne _ (by omega)]; exact row_old m i d h k
theorem row_head (m : List Int) (hm : m.length = 16) (t : Nat) (h : t < 16) : (rowAt m 48).getD t 0 = m.getD t 0 := by
  rw [show (48 : Nat) = 0 + 48 from rfl, row_old m t 0 (by omega) 48, rowAt]
  simp [List.getD_eq_getElem?_getD, List.getElem?_append_left (show t < m.length by omega)]
theorem row_rec (m : List Int) (hm : m.length = 16) (d : Nat) (h : d < 48) : (rowAt m 48).getD (16 + d) 0 = wv (rowAt m 48) d := by
  have e : 48 = (d + 1) + (47 - d) := by omega
  have f : 48 = d + (48 - d) := by omega
  have g1 : (rowAt m 48).getD (16 + d) 0 = wv (rowAt m d) d := by
    conv => lhs; rw [e]
    rw [row_old m (16 + d) (d + 1) (by omega), rowAt, getD_set_self _ (by rw [rowAt_len m hm]; omega)]
  have g : ∀ i, i < 16 + d → (rowAt m 48).getD i 0 = (rowAt m d).getD i 0 := fun i hi => by conv => lhs; rw [f]
                                                                                            exact row_old m i d hi _
  rw [g1, wv, wv, g d (by omega), g (1 + d) (by omega), g (9 + d) (by omega), g (14 + d) (by omega)]
theorem isWords_set {l : List Int} (h : IsWords l) (i : Nat) (v : Int) (hv : 0 ≤ v ∧ v < 4294967296) : IsWords (l.set i v) := fun x hx => by
  rcases List.mem_or_eq_of_mem_set hx with h1 | rfl
  · exact h x h1
  · exact hv
theorem mod_word (x : Int) : 0 ≤ x % 4294967296 ∧ x % 4294967296 < 4294967296 := ⟨Int.emod_nonneg _ (by decide), Int.emod_lt_of_pos _ (by decide)⟩
theorem row_words (m : List Int) (h : IsWords m) : ∀ d, IsWords (rowAt m d)
  | 0 => fun x hx => by
    rcases List.mem_append.1 hx with h1 | h1
    · exact h x h1
    · rw [List.eq_of_mem_replicate h1]; decide
  | d + 1 => isWords_set (row_words m h d) _ _ (mod_word _)
theorem step_words {v : List Int} (h : IsWords v) (x k : Int) : IsWords (stepV v x k) := fun y hy => by
  simp only [stepV, List.mem_cons, List.not_mem_nil, or_false] at hy
  rcases hy with rfl | rfl | rfl | rfl | rfl | rfl | rfl | rfl
  · exact mod_word _
  · exact h.getD _
  · exact h.getD _
  · exact h.getD _
  · exact mod_word _
  · exact h.getD _
  · exact h.getD _
  · exact h.getD _
theorem vAt_words (l h : List Int) (hh : IsWords h) : ∀ t, IsWords (vAt l h t)
  | 0 => hh
  | t + 1 => step_words (vAt_words l h hh t) _ _
theorem addAt_words (v h : List Int) (hv : IsWords v) : ∀ i, IsWords (addAt v h i)
  | 0 => hv
  | i + 1 => isWords_set (addAt_words v h hv i) _ _ (mod_word _)
theorem block_words (h m : List Int) (hh : IsWords h) : IsWords (blockR h m) := addAt_words _ _ (vAt_words _ _ hh 64) 8
theorem block_len (h m : List Int) (hh : h.length = 8) : (blockR h m).length = 8 := addAt_len _ _ (vAt_len _ _ hh 64) 8
theorem three_boxes (hl m : List Int) (w : World) : Blk (((w.alloc (.cells (wordsA hl) 28)).alloc (.cells (wordsA m) 29)).alloc (.cells #[.int .u32 0, .int .u32 0, .int .u32 0, .int .u32 0, .int .u32 0, .int .u32 0, .int .u32 0, .int .u32 0] 28)) w.heap.size (wordsA hl) 28 ∧ Blk (((w.alloc (.cells (wordsA hl) 28)).alloc (.cells (wordsA m) 29)).alloc (.cells #[.int .u32 0, .int .u32 0, .int .u32 0, .int .u32 0, .int .u32 0, .int .u32 0, .int .u32 0, .int .u32 0] 28)) (w.heap.size + 1) (wordsA m) 29 ∧ Blk (((w.alloc (.cells (wordsA hl) 28)).alloc (.cells (wordsA m) 29)).alloc (.cells #[.int .u32 0, .int .u32 0, .int .u32 0, .int .u32 0, .int .u32 0, .int .u32 0, .int .u32 0, .int .u32 0] 28)) (w.heap.size + 1 + 1) (wordsA (List.replicate 8 0)) 28 ∧ Below w.heap.size w (((w.alloc (.cells (wordsA hl) 28)).alloc (.cells (wordsA m) 29)).alloc (.cells #[.int .u32 0, .int .u32 0, .int .u32 0, .int .u32 0, .int .u32 0, .int .u32 0, .int .u32 0, .int .u32 0] 28)) :=
  ⟨((Blk.new w _ _).alloc _).alloc _, (by simpa using Blk.new (w.alloc (.cells (wordsA hl) 28)) (wordsA m) 29 : Blk ((w.alloc (.cells (wordsA hl) 28)).alloc (.cells (wordsA m) 29)) (w.heap.size + 1) (wordsA m) 29).alloc _, (by simpa using Blk.new ((w.alloc (.cells (wordsA hl) 28)).alloc (.cells (wordsA m) 29)) #[.int .u32 0, .int .u32 0, .int .u32 0, .int .u32 0, .int .u32 0, .int .u32 0, .int .u32 0, .int .u32 0] 28 : Blk (((w.alloc (.cells (wordsA hl) 28)).alloc (.cells (wordsA m) 29)).alloc (.cells #[.int .u32 0, .int .u32 0, .int .u32 0, .int .u32 0, .int .u32 0, .int .u32 0, .int .u32 0, .int .u32 0] 28)) (w.heap.size + 1 + 1) #[.int .u32 0, .int .u32 0, .int .u32 0, .int .u32 0, .int .u32 0, .int .u32 0, .int .u32 0, .int .u32 0] 28),
    below_alloc (below_alloc (below_alloc (Below.refl w.heap.size w) _) _) _⟩
/-- The boxes of the reference's Block, and its row. -/
structure RS (n0 n1 n2 n3 g t cap : Nat) (h m xs : List Int) (w W : World) : Prop where
  h0 : Blk W n0 (wordsA h) 28
  h1 : Blk W n1 (wordsA m) 29
  h2 : Blk W n2 (wordsA (List.replicate 8 0)) 28
  own : W.ownsRow n3 27 1 (.slice (some ⟨g, 0, none⟩) t cap) t (xs.map (Value.int .u32))
  hb : Below n0 w W
section
variable {n0 n1 n2 n3 g t cap : Nat} {h m xs : List Int} {w W W' : World}
theorem RS.alloc (s : RS n0 n1 n2 n3 g t cap h m xs w W) (o : Obj) : RS n0 n1 n2 n3 g t cap h m xs w (W.alloc o) := ⟨s.h0.alloc o, s.h1.alloc o, s.h2.alloc o, s.own.alloc o, s.hb.alloc (Nat.le_of_lt s.h0.lt) o⟩
theorem RS.drew (s : RS n0 n1 n2 n3 g t cap h m xs w W) : RS n0 n1 n2 n3 g t cap h m xs w W.drew := ⟨s.h0, s.h1, s.h2, s.own, below_drew1 s.hb⟩
theorem RS.drewN (s : RS n0 n1 n2 n3 g t cap h m xs w W) (n : Nat) : RS n0 n1 n2 n3 g t cap h m xs w (W.drewN n) := ⟨s.h0, s.h1, s.h2, s.own, pw_below_drewN s.hb n⟩
theorem RS.grown (s : RS n0 n1 n2 n3 g t cap h m xs w W) (hn : n0 < n3 ∧ n1 < n3 ∧ n2 < n3) (hg : W.grownBy W' (some g)) (ho : W'.ownsRow n3 27 1 (.slice (some ⟨g, 0, none⟩) t cap) t (xs.map (Value.int .u32))) : RS n0 n1 n2 n3 g t cap h m xs w W' := by
  have hl := (s.own.lt g rfl).1
  exact ⟨s.h0.grown hg (by omega), s.h1.grown hg (by omega), s.h2.grown hg (by omega), ho, below_grown s.hb hg (by omega) (Nat.le_of_lt s.h0.lt)⟩
theorem RS.cell (s : RS n0 n1 n2 n3 g t cap h m xs w W) (j : Nat) (hj : j < t) : W.cell? ⟨g, j, none⟩ = some (.int .u32 (xs.getD j 0)) := by
  have hl : xs.length = t := by have := s.own.1; simpa using this
  rw [s.own.cellAt j (by omega)]
  simp [hl, hj]
end
theorem wrap3 (a b c d : Int) : IntKind.u32.wrap (IntKind.u32.wrap (IntKind.u32.wrap (a + b) + c) + d) = (a + b + c + d) % 4294967296 := by
  show (((a + b) % 4294967296 + c) % 4294967296 + d) % 4294967296 = _
  omega
theorem own_below {W W' : World} {base n g cap : Nat} {e : TypeId} {xs : List Value} (h : W.ownsRow base e 1 (.slice (some ⟨g, 0, none⟩) n cap) n xs) (hb : Below W.heap.size W W') : W'.ownsRow base e 1 (.slice (some ⟨g, 0, none⟩) n cap) n xs := by
  rcases h.2 with ⟨h0, _⟩ | ⟨g', cap1, cur, hv, hbg, hg, r⟩
  · cases h0
  · exact ⟨h.1, .inr ⟨g', cap1, cur, hv, hbg, (hb.block g' (Array.getElem?_eq_some_iff.1 hg).1).trans hg, r⟩⟩
theorem own_base {W : World} {base base' n g cap : Nat} {e : TypeId} {xs : List Value} (h : W.ownsRow base e 1 (.slice (some ⟨g, 0, none⟩) n cap) n xs) (hb : base' ≤ base) : W.ownsRow base' e 1 (.slice (some ⟨g, 0, none⟩) n cap) n xs := by
  rcases h.2 with ⟨h0, _⟩ | ⟨g', cap1, cur, hv, hbg, r⟩
  · cases h0
  · exact ⟨h.1, .inr ⟨g', cap1, cur, hv, Nat.le_trans hb hbg, r⟩⟩
theorem consts_any (w : World) : Calls Try.prog 31 #[] w fun e w' => ∃ g cap, e = .returned (.slice (some ⟨g, 0, none⟩) 64 cap) ∧ w'.ownsRow w.heap.size 27 1 (.slice (some ⟨g, 0, none⟩) 64 cap) 64 (kL.map (Value.int .u32)) ∧ Below w.heap.size w w' := by
  refine (gatelineref02_Constants.calls kL w rfl).mono ?_
  rintro e w' ⟨v, rfl, hR, hb⟩
  obtain ⟨g, cap, hv, _⟩ := Kd.R_form hR (by decide)
  have ho := Kd.own_of_R hR
  subst hv
  exact ⟨g, cap, rfl, ho, hb⟩
/-- The boxes behind the row: h, the result, the row, the constants, v. -/
structure BT (n0 n2 g t cap gk ck n4 : Nat) (h L v : List Int) (w W : World) : Prop where
  h0 : Blk W n0 (wordsA h) 28
  h2 : Blk W n2 (wordsA (List.replicate 8 0)) 28
  ho : W.ownsRow 0 27 1 (.slice (some ⟨g, 0, none⟩) t cap) t (L.map (Value.int .u32))
  hk : W.ownsRow 0 27 1 (.slice (some ⟨gk, 0, none⟩) 64 ck) 64 (kL.map (Value.int .u32))
  h4 : Blk W n4 (wordsA v) 28
  hb : Below n0 w W
section
variable {n0 n2 g t cap gk ck n4 : Nat} {h L v v' : List Int} {w W W' : World}
theorem BT.drewN (s : BT n0 n2 g t cap gk ck n4 h L v w W) (n : Nat) : BT n0 n2 g t cap gk ck n4 h L v w (W.drewN n) := ⟨s.h0, s.h2, s.ho, s.hk, s.h4, pw_below_drewN s.hb n⟩
theorem BT.put (s : BT n0 n2 g t cap gk ck n4 h L v w W) (hn : n0 < n4 ∧ n2 < n4 ∧ g < n4 ∧ gk < n4) (i : Nat) {u : Value} (e : (wordsA v).setIfInBounds i u = wordsA v') : BT n0 n2 g t cap gk ck n4 h L v' w (W.setCell ⟨n4, i, none⟩ u) :=
  have hg : W.grownBy (W.setCell ⟨n4, i, none⟩ u) (some n4) := ⟨rfl, rfl, rfl, by simp, fun k _ hk => Below.heap_setCell W ⟨n4, i, none⟩ u k (fun e => hk (by rw [e]))⟩
  ⟨s.h0.grown hg (by omega), s.h2.grown hg (by omega), s.ho.kept hg (Or.inr (by simp only [Value.ownBlock, ne_eq, Option.some.injEq]; omega)), s.hk.kept hg (Or.inr (by simp only [Value.ownBlock, ne_eq, Option.some.injEq]; omega)), s.h4.put i u e, below_grown s.hb hg (by omega) (Nat.le_of_lt s.h0.lt)⟩
theorem BT.grown (s : BT n0 n2 g t cap gk ck n4 h L v w W) (hn : n0 < n4 ∧ n2 < n4 ∧ g < n4 ∧ gk < n4) (hg : W.grownBy W' (some n4)) (hv : Blk W' n4 (wordsA v') 28) : BT n0 n2 g t cap gk ck n4 h L v' w W' :=
  ⟨s.h0.grown hg (by omega), s.h2.grown hg (by omega), s.ho.kept hg (Or.inr (by simp only [Value.ownBlock, ne_eq, Option.some.injEq]; omega)), s.hk.kept hg (Or.inr (by simp only [Value.ownBlock, ne_eq, Option.some.injEq]; omega)), hv, below_grown s.hb hg (by omega) (Nat.le_of_lt s.h0.lt)⟩
end
theorem one_new (w : World) (x : Value) : ∀ j u, ([x] : List Value)[j]? = some u → (w.alloc (.cells #[x] 27)).cell? ((⟨w.heap.size, 0, none⟩ : Addr).add j) = some u := fun j u hu => by
  rw [add_lit]; exact (Blk.new w #[x] 27).cell j u (by simpa using hu)
theorem one_cell1 {x : Int} : ∀ u ∈ ([.int .u32 x] : List Value), u.oneCell' = true := fun u hu => by rw [List.mem_singleton.1 hu]; rfl
theorem RS.base {n0 n1 n2 n3 g t cap : Nat} {h m xs : List Int} {w W : World} (s : RS n0 n1 n2 n3 g t cap h m xs w W) : n3 ≤ W.heap.size := by have := s.own.lt g rfl; omega
set_option maxRecDepth 100000 in
set_option maxHeartbeats 4000000 in
theorem rblock_any (hl m : List Int) (w : World) (hh : hl.length = 8) (hm : m.length = 16) (wh : IsWords hl) (wm : IsWords m) :
    Calls Try.prog 16 #[.agg (wordsA hl), .agg (wordsA m)] w fun e w' => e = .returned (.agg (wordsA (blockR hl m))) ∧ Below w.heap.size w w' := by
  have sh : (wordsA hl).size = 8 := (words_size hl).trans hh
  have sm : (wordsA m).size = 16 := (words_size m).trans hm
  have oh := words_one hl
  have om := words_one m
  obtain ⟨R, hR⟩ : ∃ R, R = blockR hl m := ⟨_, rfl⟩
  rw [← hR]
  have HR := Aside0.mk hR
  have WH := Aside0.mk wh
  have WM := Aside0.mk wm
  clear hR wh wm
  go_enter Try.func16, Try.ntmps16
  go_upto_region 1 with (first | (fail))
  have F := Aside0.mk (three_boxes hl m w)
  obtain ⟨n0, hn0⟩ : ∃ n, n = w.heap.size := ⟨_, rfl⟩
  obtain ⟨n1, hn1⟩ : ∃ n, n = w.heap.size + 1 := ⟨_, rfl⟩
  obtain ⟨n2, hn2⟩ : ∃ n, n = w.heap.size + 1 + 1 := ⟨_, rfl⟩
  have HN0 : Aside0 (n0 = w.heap.size) := ⟨hn0⟩
  have hn : n1 = n0 + 1 ∧ n2 = n0 + 2 := by omega
  have HSZ : Aside0 (((((w.alloc (.cells (wordsA hl) 28)).alloc (.cells (wordsA m) 29)).alloc (.cells #[.int .u32 0, .int .u32 0, .int .u32 0, .int .u32 0, .int .u32 0, .int .u32 0, .int .u32 0, .int .u32 0] 28))).heap.size = n0 + 3) := ⟨by simp only [World.size_alloc]; omega⟩
  generalize (((w.alloc (.cells (wordsA hl) 28)).alloc (.cells (wordsA m) 29)).alloc (.cells #[.int .u32 0, .int .u32 0, .int .u32 0, .int .u32 0, .int .u32 0, .int .u32 0, .int .u32 0, .int .u32 0] 28)) = W0 at *
  rw [← hn2, ← hn1, ← hn0] at F ⊢
  have HN := Aside0.mk (show n0 < n0 + 3 ∧ n1 < n0 + 3 ∧ n2 < n0 + 3 by omega)
  have HD2 := Aside0.mk (show n0 < n2 by omega)
  obtain ⟨h0, h1, h2, hb⟩ := F.out
  clear F hn0 hn1 hn2 hn
  have H0 := Aside0.mk h0
  have H1 := Aside0.mk h1
  have H2 := Aside0.mk h2
  have HB := Aside0.mk hb
  have HH := Aside0.mk hh
  have HM := Aside0.mk hm
  have OH := Aside0.mk oh
  clear h0 h1 h2 hb hh hm sh sm oh om
  go_wp2
  obtain ⟨L, hL⟩ : ∃ L, L = rowAt m 48 := ⟨_, rfl⟩
  have HLR := Aside0.mk hL
  have HLL : Aside0 (L.length = 64) := ⟨by rw [hL]; exact rowAt_len m HM.out 48⟩
  have HLW : Aside0 (IsWords L) := ⟨by rw [hL]; exact row_words m WM.out 48⟩
  obtain ⟨n3, hn3⟩ : ∃ n3, n3 = n0 + 3 := ⟨_, rfl⟩
  have HSZ3 : Aside0 (n3 ≤ W0.heap.size) := ⟨by have := HSZ.out; omega⟩
  rw [← hn3] at HN
  have HS : Aside0 (RS n0 n1 n2 n3 W0.heap.size 0 0 hl m (L.take 0) w (W0.alloc (.cells #[] 27))) := ⟨⟨H0.out.alloc _, H1.out.alloc _, H2.out.alloc _, by
    have := World.ownsRow_made (base := n3) (e := 27) (size := 1) W0 #[] 0 HSZ3.out (by decide) rfl
    simpa using this, HB.out.alloc (Nat.le_of_lt H0.out.lt) _⟩⟩
  generalize W0.alloc (.cells #[] 27) = U1 at *
  generalize W0.heap.size = g0 at *
  clear hL H0 H1 H2 HB HSZ hn3 HSZ3
  go_loopw [5, 6] (fun t5 t6 wr => ∃ t g cap : Nat, t6 = .int .i64 t ∧ t5 = .slice (some ⟨g, 0, none⟩) t cap ∧ Aside0 (t ≤ 64) ∧ Aside0 (RS n0 n1 n2 n3 g t cap hl m (L.take t) w wr)) (fun _ t6 _ => 64 - (intOf t6).toNat)
  case atStart => exact ⟨0, g0, 0, rfl, rfl, ⟨by omega⟩, HS⟩
  case round =>
    clear HS
    obtain ⟨t, g, cap, rfl, rfl, HT, HS⟩ := hrel
    by_cases ht : t < 64
    · by_cases h16 : t < 16
      · have hc := HS.out.h1.cell t _ (wordsA_at _ _ (by rw [HM.out]; exact h16))
        obtain ⟨x, hx⟩ : ∃ x, x = m.getD t 0 := ⟨_, rfl⟩
        rw [← hx] at hc
        have HX : Aside0 (L.take t ++ [x] = L.take (t + 1)) := ⟨by
          rw [hx, ← row_head m HM.out t h16, ← HLR.out, take_snoc L t (by rw [HLL.out]; exact ht)]⟩
        have hi0 : (0 : Int) ≤ t := Int.natCast_nonneg _
        have hi1 : (t : Int) < 16 := by omega
        have hi2 : (t : Int) < 64 := by omega
        have HTL := Aside0.mk ht
        clear hx ht h16
        go_wp2_with (first
          | (at_builtin; go_loud (refine wpList_append_keep _ rfl (.tmp 20) (.tmp 24) 35 rfl n3 27 (.int .u32 0) 4 Try.underlying35 info27 rfl g t cap ((L.take t).map (Value.int .u32)) rfl ((HS.out.alloc _).own) ⟨wr.heap.size, 0, none⟩ 1 1 [.int .u32 x] rfl rfl ?c1 ?c2 ?c3 ?c4 ?c5 ?_)
             go_loud (case c1 => intro j u hu; rw [add_lit]; exact (Blk.new wr #[.int .u32 x] 27).cell j u (by simpa using hu))
             go_loud (case c2 => intro u hu; rw [List.mem_singleton.1 hu]; rfl)
             go_loud (case c3 => have := HTL.out; unfold maxLen; omega)
             go_loud (case c4 => have := HTL.out; omega)
             go_loud (case c5 => have := HS.out.own.lt g rfl; simp only [World.size_alloc]; omega)
             intro gg cap1 w5 hown hg hold
             go_loud (have T1 := Aside0.mk ((HS.out.alloc _).grown HN.out hg hold))
             go_loud (have O1 := Aside0.mk hown)
             clear hown hg hold HS))
        go_roundw
        case measure => have := HTL.out; simp [intOf]; omega
        case rel => exact ⟨t + 1, gg, cap1, by simp, rfl, ⟨by have := HTL.out; omega⟩, ⟨⟨T1.out.h0, T1.out.h1, T1.out.h2, by have := O1.out; rw [← List.map_singleton (f := Value.int .u32), ← List.map_append, HX.out] at this; exact this, T1.out.hb⟩⟩⟩
      · obtain ⟨d, rfl⟩ : ∃ d, t = 16 + d := ⟨t - 16, by omega⟩
        have hd : d < 48 := by omega
        have i15 : IntKind.i64.wrap ((16 : Int) + d - 15) = ((1 + d : Nat) : Int) := by simp only [IntKind.wrap, IntKind.signed, IntKind.bits]; simp; omega
        have i2 : IntKind.i64.wrap ((16 : Int) + d - 2) = ((14 + d : Nat) : Int) := by simp only [IntKind.wrap, IntKind.signed, IntKind.bits]; simp; omega
        have i16 : IntKind.i64.wrap ((16 : Int) + d - 16) = (d : Int) := by simp only [IntKind.wrap, IntKind.signed, IntKind.bits]; simp; omega
        have i7 : IntKind.i64.wrap ((16 : Int) + d - 7) = ((9 + d : Nat) : Int) := by simp only [IntKind.wrap, IntKind.signed, IntKind.bits]; simp; omega
        obtain ⟨x16, hx16⟩ : ∃ x, x = L.getD d 0 := ⟨_, rfl⟩
        obtain ⟨x15, hx15⟩ : ∃ x, x = L.getD (1 + d) 0 := ⟨_, rfl⟩
        obtain ⟨x7, hx7⟩ : ∃ x, x = L.getD (9 + d) 0 := ⟨_, rfl⟩
        obtain ⟨x2, hx2⟩ : ∃ x, x = L.getD (14 + d) 0 := ⟨_, rfl⟩
        have w15 : 0 ≤ x15 ∧ x15 < 4294967296 := by rw [hx15]; exact HLW.out.getD _
        have w2 : 0 ≤ x2 ∧ x2 < 4294967296 := by rw [hx2]; exact HLW.out.getD _
        have MK : Aside0 (∀ W, RS n0 n1 n2 n3 g (16 + d) cap hl m (L.take (16 + d)) w W → W.cell? ⟨g, d, none⟩ = some (.int .u32 x16) ∧ W.cell? ⟨g, 1 + d, none⟩ = some (.int .u32 x15) ∧ W.cell? ⟨g, 9 + d, none⟩ = some (.int .u32 x7) ∧ W.cell? ⟨g, 14 + d, none⟩ = some (.int .u32 x2) ∧ Aside0 (RS n0 n1 n2 n3 g (16 + d) cap hl m (L.take (16 + d)) w W)) :=
          ⟨fun W s => ⟨by rw [s.cell d (by omega), take_getD L (by omega), hx16], by rw [s.cell (1 + d) (by omega), take_getD L (by omega), hx15], by rw [s.cell (9 + d) (by omega), take_getD L (by omega), hx7], by rw [s.cell (14 + d) (by omega), take_getD L (by omega), hx2], ⟨s⟩⟩⟩
        have HX : Aside0 (∀ q, q = (x16 + sg x15 7 18 8 + x7 + sg x2 17 19 1024) % 4294967296 → L.take (16 + d) ++ [q] = L.take (16 + d + 1)) := ⟨fun q hq => by
          rw [take_snoc L (16 + d) (by rw [HLL.out]; omega)]
          have e := row_rec m HM.out d hd
          rw [← HLR.out, wv, ← hx16, ← hx15, ← hx7, ← hx2, ← hq] at e
          rw [e]⟩
        have i17 : ¬ (16 : Int) + d < 16 := by omega
        have i18 : (16 : Int) + d < 64 := by omega
        have id1 : (0 : Int) ≤ 1 + d := by omega
        have id2 : (0 : Int) ≤ 9 + d := by omega
        have id3 : (0 : Int) ≤ 14 + d := by omega
        have ie0 : (d : Int) < 16 + d := by omega
        have ie1 : (1 : Int) + d < 16 + d := by omega
        have ie2 : (9 : Int) + d < 16 + d := by omega
        have ie3 : (14 : Int) + d < 16 + d := by omega
        have if1 : ((1 : Int) + d).toNat = 1 + d := by omega
        have if2 : ((9 : Int) + d).toNat = 9 + d := by omega
        have if3 : ((14 : Int) + d).toNat = 14 + d := by omega
        have HD1 := Aside0.mk hd
        clear hx16 hx15 hx7 hx2 hd ht h16
        obtain ⟨w150, w151⟩ := w15
        obtain ⟨w20, w21⟩ := w2
        go_wp2
        go_region_held3 (fun W' => W'.cell? ⟨g, d, none⟩ = some (.int .u32 x16) ∧ W'.cell? ⟨g, 1 + d, none⟩ = some (.int .u32 x15) ∧ W'.cell? ⟨g, 9 + d, none⟩ = some (.int .u32 x7) ∧ W'.cell? ⟨g, 14 + d, none⟩ = some (.int .u32 x2) ∧ Aside0 (RS n0 n1 n2 n3 g (16 + d) cap hl m (L.take (16 + d)) w W'))
          (first
            | assumption
            | exact MK.out _ (RS.drew HS.out)
            | exact MK.out _ (RS.drewN (Aside0.out (by assumption)) _)
            | exact MK.out _ (RS.alloc (Aside0.out (by assumption)) _)
            | exact MK.out _ (RS.grown (Aside0.out (by assumption)) HN.out hg hold)
            | (go_split_ands; exact MK.out _ (RS.drewN (Aside0.out (by assumption)) _))
            | (go_split_ands; exact MK.out _ (RS.alloc (Aside0.out (by assumption)) _))
            | (go_split_ands; exact MK.out _ (RS.grown (Aside0.out (by assumption)) HN.out hg hold)))
          (first
            | (go_at_call 30; refine (two_any _ _ _ _ _ (by assumption) (by assumption) (by unfold InRot; omega) (by unfold InRot; omega) (by decide)).mono ?_; rintro e w' ⟨rfl, nd, rfl⟩)
            | ((go_split_ands; refine step_append_keep _ (by rfl) (.tmp 26) (.tmp 52) 35 (by rfl) n3 27 (.int .u32 0) 4 Try.underlying35 info27 rfl g (16 + d) cap ((L.take (16 + d)).map (Value.int .u32)) (by rfl) (RS.own (show RS n0 n1 n2 n3 g (16 + d) cap hl m (L.take (16 + d)) w _ from Aside0.out (by assumption))) ⟨_, 0, none⟩ 1 1 [.int .u32 _] (by rfl) (by rfl) (one_new _ _) one_cell1 (by have := HD1.out; unfold maxLen; omega) (by have := HD1.out; omega) (RS.base (show RS n0 n1 n2 n3 g (16 + d) cap hl m (L.take (16 + d)) w _ from Aside0.out (by assumption))) ?_); intro gg cap1 w5 hown hg hold))
        have T1 : Aside0 (RS n0 n1 n2 n3 g (16 + d) cap hl m (L.take (16 + d)) w w5) := by go_split_ands; assumption
        have O1 := Aside0.mk hown
        clear hown hg hold HS MK
        go_wp2
        go_roundw
        case measure => have := HD1.out; simp [intOf]; omega
        case rel =>
          refine ⟨16 + d + 1, gg, cap1, by congr 1, rfl, ⟨by have := HD1.out; omega⟩, ⟨⟨T1.out.h0, T1.out.h1, T1.out.h2, ?_, T1.out.hb⟩⟩⟩
          have := O1.out
          rw [← List.map_singleton (f := Value.int .u32), ← List.map_append, HX.out _ (wrap3 _ _ _ _)] at this
          exact this
    · have hT : t = 64 := by have := HT.out; omega
      have hTL : L.take t = L := List.take_of_length_le (by rw [HLL.out]; omega)
      have ht2 : ¬ (t : Int) < 64 := by omega
      have HTE := Aside0.mk hT
      rw [hTL] at HS
      clear hTL ht hT HT
      go_wp2_with (first
        | (go_at_call 31; refine (consts_any _).mono ?_; rintro e w6 ⟨gk, ck, rfl, hk, hbk⟩
           have K0 := Aside0.mk (HS.out.h0.below hbk HS.out.h0.lt)
           have K2 := Aside0.mk (HS.out.h2.below hbk HS.out.h2.lt)
           have K3 := Aside0.mk (own_base (own_below HS.out.own hbk) (Nat.zero_le _))
           have K4 := Aside0.mk (own_base hk (Nat.zero_le _))
           have KB := Aside0.mk (HS.out.hb.trans (hbk.mono (Nat.le_of_lt HS.out.h0.lt)))
           clear hk hbk HS)
        | (refine wpList_load_blk rfl 28 (.tmp 2) rfl n0 rfl 28 (wordsA hl) 8 27 K0.out Try.underlying28 (by rw [words_size, HH.out]; kernel_rfl) ?_)
        | (refine wpList_store_blk rfl 28 (.tmp 8) (.tmp 55) rfl w6.heap.size (wordsA hl) rfl rfl 28 _ (Blk.new w6 _ _) (by rw [words_size, HH.out]; kernel_rfl) (by rw [words_size, HH.out]; try rfl) OH.out ?_
           intro w7 hv hg
           have g0 := (K0.out.alloc _).grown hg (by have := K0.out.lt; omega)
           have g2 := (K2.out.alloc _).grown hg (by have := K2.out.lt; omega)
           have g3 := (K3.out.alloc _).kept hg (Or.inr (by have := (K3.out.lt g rfl).2; simp only [Value.ownBlock, ne_eq, Option.some.injEq]; omega))
           have g4 := (K4.out.alloc _).kept hg (Or.inr (by have := (K4.out.lt gk rfl).2; simp only [Value.ownBlock, ne_eq, Option.some.injEq]; omega))
           have gb := below_grown (KB.out.alloc (by have := K0.out.lt; omega) _) hg (by have := K0.out.lt; omega) (by have := K0.out.lt; simp only [World.size_alloc]; omega)
           have GG := Aside0.mk (show BT n0 n2 g t cap gk ck w6.heap.size hl L (vAt L hl 0) w w7 from ⟨g0, g2, g3, g4, hv, gb⟩)
           have GN := Aside0.mk (show n0 < w6.heap.size ∧ n2 < w6.heap.size ∧ g < w6.heap.size ∧ gk < w6.heap.size from ⟨K0.out.lt, K2.out.lt, (K3.out.lt g rfl).2, (K4.out.lt gk rfl).2⟩)
           clear g0 g2 g3 g4 gb hv hg K0 K2 K3 K4 KB))
      obtain ⟨n4, hn4⟩ : ∃ n4, n4 = w6.heap.size := ⟨_, rfl⟩
      rw [← hn4] at GG GN ⊢
      clear hn4
      go_loopw [9] (fun t9 wr => ∃ i : Nat, t9 = .int .i64 i ∧ Aside0 (i ≤ 64) ∧ Aside0 (BT n0 n2 g t cap gk ck n4 hl L (vAt L hl i) w wr)) (fun t9 _ => 64 - (intOf t9).toNat)
      case atStart => exact ⟨0, rfl, ⟨by omega⟩, GG⟩
      case round =>
        clear GG
        obtain ⟨i, rfl, HI, HS⟩ := hrel
        by_cases hi : i < 64
        · have hvw := vAt_words L hl WH.out i
          obtain ⟨v0, v1, v2, v3, v4, v5, v6, v7, hv⟩ := list8 (vAt_len L hl HH.out i)
          have HV := Aside0.mk hv
          rw [hv] at hvw
          replace HS : Aside0 (BT n0 n2 g t cap gk ck n4 hl L [v0, v1, v2, v3, v4, v5, v6, v7] w wr) := ⟨by rw [← hv]; exact HS.out⟩
          clear hv
          have pw0 : 0 ≤ v0 ∧ v0 < 4294967296 := hvw v0 (by simp)
          have pw1 : 0 ≤ v1 ∧ v1 < 4294967296 := hvw v1 (by simp)
          have pw2 : 0 ≤ v2 ∧ v2 < 4294967296 := hvw v2 (by simp)
          have pw3 : 0 ≤ v3 ∧ v3 < 4294967296 := hvw v3 (by simp)
          have pw4 : 0 ≤ v4 ∧ v4 < 4294967296 := hvw v4 (by simp)
          have pw5 : 0 ≤ v5 ∧ v5 < 4294967296 := hvw v5 (by simp)
          have pw6 : 0 ≤ v6 ∧ v6 < 4294967296 := hvw v6 (by simp)
          have pw7 : 0 ≤ v7 ∧ v7 < 4294967296 := hvw v7 (by simp)
          clear hvw
          have hc0 : wr.cell? ⟨n4, 0, none⟩ = some (.int .u32 v0) := HS.out.h4.cell 0 _ rfl
          have hc1 : wr.cell? ⟨n4, 1, none⟩ = some (.int .u32 v1) := HS.out.h4.cell 1 _ rfl
          have hc2 : wr.cell? ⟨n4, 2, none⟩ = some (.int .u32 v2) := HS.out.h4.cell 2 _ rfl
          have hc3 : wr.cell? ⟨n4, 3, none⟩ = some (.int .u32 v3) := HS.out.h4.cell 3 _ rfl
          have hc4 : wr.cell? ⟨n4, 4, none⟩ = some (.int .u32 v4) := HS.out.h4.cell 4 _ rfl
          have hc5 : wr.cell? ⟨n4, 5, none⟩ = some (.int .u32 v5) := HS.out.h4.cell 5 _ rfl
          have hc6 : wr.cell? ⟨n4, 6, none⟩ = some (.int .u32 v6) := HS.out.h4.cell 6 _ rfl
          have hc7 : wr.cell? ⟨n4, 7, none⟩ = some (.int .u32 v7) := HS.out.h4.cell 7 _ rfl
          have hcl : wr.cell? ⟨g, i, none⟩ = some (.int .u32 (L.getD i 0)) := by
            rw [HS.out.ho.cellAt i (by have := HTE.out; omega)]
            simp [HLL.out, hi]
          have hck : wr.cell? ⟨gk, i, none⟩ = some (.int .u32 (kL.getD i 0)) := by
            have : i < kL.length := hi
            rw [HS.out.hk.cellAt i (by omega)]
            simp [this]
          obtain ⟨x, hx⟩ : ∃ x, x = L.getD i 0 := ⟨_, rfl⟩
          obtain ⟨k, hk⟩ : ∃ k, k = kL.getD i 0 := ⟨_, rfl⟩
          rw [← hx] at hcl
          rw [← hk] at hck
          have HX := Aside0.mk hx
          have HK := Aside0.mk hk
          have hi0 : (0 : Int) ≤ i := Int.natCast_nonneg _
          have hi1 : (i : Int) < 64 := by omega
          have hi2 : (i : Int) < t := by have := HTE.out; omega
          have hi3 : i < t := by have := HTE.out; omega
          have HIL := Aside0.mk hi
          clear hi hx hk
          go_wp2
          go_quiet ((first
            | (go_at_call 32; exact Calls.quiet_of (three_any _ _ _ _ _ pw4.1 pw4.2 (by unfold InRot; omega) (by unfold InRot; omega) (by unfold InRot; omega)))
            | (go_at_call 33; exact Calls.quiet_of (pick_any _ _ _ _ pw4 pw5 pw6))))
          clear hcl hck
          replace HS := Aside0.mk (HS.out.drewN nq)
          clear hc0 hc1 hc2 hc3 hc4 hc5 hc6 hc7
          generalize wr.drewN nq = w8 at *
          have hc0 : w8.cell? ⟨n4, 0, none⟩ = some (.int .u32 v0) := HS.out.h4.cell 0 _ rfl
          have hc1 : w8.cell? ⟨n4, 1, none⟩ = some (.int .u32 v1) := HS.out.h4.cell 1 _ rfl
          have hc2 : w8.cell? ⟨n4, 2, none⟩ = some (.int .u32 v2) := HS.out.h4.cell 2 _ rfl
          have hc3 : w8.cell? ⟨n4, 3, none⟩ = some (.int .u32 v3) := HS.out.h4.cell 3 _ rfl
          have hc4 : w8.cell? ⟨n4, 4, none⟩ = some (.int .u32 v4) := HS.out.h4.cell 4 _ rfl
          have hc5 : w8.cell? ⟨n4, 5, none⟩ = some (.int .u32 v5) := HS.out.h4.cell 5 _ rfl
          have hc6 : w8.cell? ⟨n4, 6, none⟩ = some (.int .u32 v6) := HS.out.h4.cell 6 _ rfl
          have hc7 : w8.cell? ⟨n4, 7, none⟩ = some (.int .u32 v7) := HS.out.h4.cell 7 _ rfl
          go_wp2
          go_quiet ((first
            | (go_at_call 32; exact Calls.quiet_of (three_any _ _ _ _ _ pw0.1 pw0.2 (by unfold InRot; omega) (by unfold InRot; omega) (by unfold InRot; omega)))
            | (go_at_call 34; exact Calls.quiet_of (most_any _ _ _ _ pw0 pw1 pw2))))
          clear hc0 hc1 hc2 hc3 hc4 hc5 hc6 hc7
          replace HS := Aside0.mk (HS.out.drewN nq)
          generalize w8.drewN nq = w9 at *
          have hc0 : w9.cell? ⟨n4, 0, none⟩ = some (.int .u32 v0) := HS.out.h4.cell 0 _ rfl
          have hc1 : w9.cell? ⟨n4, 1, none⟩ = some (.int .u32 v1) := HS.out.h4.cell 1 _ rfl
          have hc2 : w9.cell? ⟨n4, 2, none⟩ = some (.int .u32 v2) := HS.out.h4.cell 2 _ rfl
          have hc3 : w9.cell? ⟨n4, 3, none⟩ = some (.int .u32 v3) := HS.out.h4.cell 3 _ rfl
          have hc4 : w9.cell? ⟨n4, 4, none⟩ = some (.int .u32 v4) := HS.out.h4.cell 4 _ rfl
          have hc5 : w9.cell? ⟨n4, 5, none⟩ = some (.int .u32 v5) := HS.out.h4.cell 5 _ rfl
          have hc6 : w9.cell? ⟨n4, 6, none⟩ = some (.int .u32 v6) := HS.out.h4.cell 6 _ rfl
          have hc7 : w9.cell? ⟨n4, 7, none⟩ = some (.int .u32 v7) := HS.out.h4.cell 7 _ rfl
          go_wp2_with (first
            | (refine wpList_store_blk rfl 28 (.tmp 8) (.tmp 114) rfl n4 (wordsA [_, _, _, _, _, _, _, _]) rfl rfl 28 (wordsA [v0, v1, v2, v3, v4, v5, v6, v7]) HS.out.h4 (by kernel_rfl) rfl (words_one _) ?_
               intro wa hv hg
               have GS := Aside0.mk (HS.out.grown GN.out hg hv)
               clear hv hg HS))
          go_roundw
          case measure => have := HIL.out; simp [intOf]; omega
          case rel =>
            refine ⟨i + 1, by simp, ⟨by have := HIL.out; omega⟩, ⟨?_⟩⟩
            have e := GS.out
            rw [vAt, HV.out, ← HX.out, ← HK.out]
            exact e
        · have HTI : Aside0 (i = 64) := ⟨by have := HI.out; omega⟩
          have hi2 : ¬ (i : Int) < 64 := by omega
          obtain ⟨V, hV⟩ : ∃ V, V = vAt L hl 64 := ⟨_, rfl⟩
          have HLENV : Aside0 (V.length = 8) := ⟨by rw [hV]; exact vAt_len L hl HH.out 64⟩
          have HVV := Aside0.mk hV
          replace HS : Aside0 (BT n0 n2 g t cap gk ck n4 hl L (addAt V hl 0) w wr) := ⟨by have e := HS.out; rw [HTI.out, ← hV] at e; exact e⟩
          clear hV hi HI
          go_wp2
          go_loopw [12] (fun t12 wr => ∃ j : Nat, t12 = .int .i64 j ∧ Aside0 (j ≤ 8) ∧ Aside0 (BT n0 n2 g t cap gk ck n4 hl L (addAt V hl j) w wr)) (fun t12 _ => 8 - (intOf t12).toNat)
          case atStart => exact ⟨0, rfl, ⟨by omega⟩, HS⟩
          case round =>
            clear HS
            obtain ⟨j, rfl, HJ, HS⟩ := hrel
            by_cases hj : j < 8
            · have hcv := HS.out.h4.cell j _ (wordsA_at _ _ (by rw [addAt_len V hl HLENV.out]; exact hj))
              have hch := HS.out.h0.cell j _ (wordsA_at _ _ (by rw [HH.out]; exact hj))
              have hf := HS.out.h4.frozen j
              obtain ⟨x, hx⟩ : ∃ x, x = (addAt V hl j).getD j 0 := ⟨_, rfl⟩
              obtain ⟨y, hy⟩ : ∃ y, y = hl.getD j 0 := ⟨_, rfl⟩
              rw [← hx] at hcv
              rw [← hy] at hch
              have HX := Aside0.mk hx
              have HY := Aside0.mk hy
              have hi0 : (0 : Int) ≤ j := Int.natCast_nonneg _
              have hi1 : (j : Int) < 8 := by omega
              have HIL := Aside0.mk hj
              clear hj hx hy
              go_wp2
              go_still_tail 9, (by kernel_rfl)
              go_wp2
              go_roundw
              case measure => have := HIL.out; simp [intOf]; omega
              case rel =>
                have hn := GN.out
                refine ⟨j + 1, by simp, ⟨by have := HIL.out; omega⟩, ⟨(BT.put HS.out GN.out j ?_).drewN 1⟩⟩
                rw [wordsA_set, addAt, ← HX.out, ← HY.out]
            · have hj' : j = 8 := by have := HJ.out; omega
              subst hj'
              clear hj HJ
              obtain ⟨R8, hR8⟩ : ∃ R8, R8 = addAt V hl 8 := ⟨_, rfl⟩
              have HRR : Aside0 (R8 = R) := ⟨by rw [HR.out, blockR, hR8, HVV.out, HLR.out]⟩
              have HRL : Aside0 (R8.length = 8) := ⟨by rw [hR8]; exact addAt_len V hl HLENV.out 8⟩
              rw [← hR8] at HS
              clear hR8
              go_wp2_with (first
                | (refine wpList_load_blk rfl 28 (.tmp 8) rfl n4 rfl 28 (wordsA R8) 8 27 HS.out.h4 Try.underlying28 (by rw [words_size, HRL.out]; kernel_rfl) ?_)
                | (refine wpList_store_blk rfl 28 (.tmp 4) (.tmp 128) rfl n2 (wordsA R8) rfl rfl 28 _ HS.out.h2 (by rw [words_size, HRL.out]; kernel_rfl) (by rw [words_size, words_size, HRL.out]; rfl) (words_one _) ?_
                   intro w9 hv hg
                   have gb := Aside0.mk (below_grown HS.out.hb hg (by have := HD2.out; omega) (by have := HS.out.h0.lt; omega))
                   have gv := Aside0.mk hv
                   clear hv hg HS))
              refine bodyPost_ret (v := .agg (wordsA R8)) (results_cell_row (by rfl) _ _ n2 28 _ (0, 0) _ (by rfl) gv.out Try.underlying28 rfl (by rw [words_size, HRL.out]; kernel_rfl)) rfl ⟨by rw [HRR.out], by rw [← HN0.out]; exact gb.out⟩
end Go.Proofs.Ytbakfengmehkkaa.G
