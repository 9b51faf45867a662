/- What the functions that this claim reaches do and answer: printed words and walks, walks by hand and plain laws, packed together, each with its own remark; printed rows are by the kit's print program, turned by this session. Conditions: those that each theorem states. -/
import Derived.Deep.RegionHeld3
import Derived.Deep.MidRow
import Derived.Test.YtekgienbhpknlaaKA3
import Derived.Test.YtekgienbhpknlaaKA5
import Derived.Test.YtekgienbhpknlaaKA2
import Derived.Test.YtekgienbhpknlaaKA1
section
set_option linter.unusedVariables false
set_option linter.unusedSimpArgs false
namespace Go.Proofs.Ytekgienbhpknlaa.G
open Go Go.RowKit Go.Proofs.YtekgienbhpknlaaW.PrintWords Go.Proofs.YtekgienbhpknlaaW.PrintLast Go.Proofs.YtekgienbhpknlaaW.PrintMore Go.Proofs.Ytekgienbhpknlaa.PL Go.Proofs.Ytekgienbhpknlaa.Q
def rSnd : Option Code → Option Code | some (.seq _ b) => some b | _ => none
def p17 (f : Func) : Option Code := rSnd (rSnd (rSnd (rSnd (rSnd f.body))))
def rFst : Option Code → Option Code | some (.seq a _) => some a | _ => none
def p18 (f : Func) : Option Code := rSnd (p17 f)
def q17 (f : Func) : Option Code := rFst (p17 f)
def p20 (f : Func) : Option Code := rSnd (p18 f)
def q20 (f : Func) : Option Code := rFst (rFst (p20 f))
def c20 (f : Func) : Option Code := rSnd (rFst (p20 f))
def p22 (f : Func) : Option Code := rSnd (p20 f)
def q22 (f : Func) : Option Code := rFst (p22 f)
/-- The numbers of the tags, as a reading's cells. -/
def cM (m : List Int) : List Int := [m.getD 3 0, m.getD 2 0, m.getD 4 0, m.getD 5 0, m.getD 6 0, m.getD 7 0, m.getD 8 0, m.getD 9 0, m.getD 10 0, m.getD 11 0, m.getD 12 0, m.getD 1 0, 0, 0, m.getD 0 0]
def leastM (m : List Int) : Int := if 0 < m.getD 8 0 then 3 else if 0 < m.getD 7 0 then 2 else 1
theorem list13 {l : List Int} (h : l.length = 13) : ∃ m0 m1 m2 m3 m4 m5 m6 m7 m8 m9 m10 m11 m12, l = [m0, m1, m2, m3, m4, m5, m6, m7, m8, m9, m10, m11, m12] := by
  match l, h with
  | [m0, m1, m2, m3, m4, m5, m6, m7, m8, m9, m10, m11, m12], _ => exact ⟨m0, m1, m2, m3, m4, m5, m6, m7, m8, m9, m10, m11, m12, rfl⟩
theorem mx_le (a b : Int) (h : b ≤ a) : mx a b = a := by unfold mx; rw [if_neg (by omega)]
theorem cM_set (m : List Int) (hm : m.length = 13) (tag v : Int) (h1 : 1 ≤ tag) (h2 : tag ≤ 13) : cM (m.set (tag.toNat - 1) v) = (cM m).set (offT tag) v := by
  obtain ⟨m0, m1, m2, m3, m4, m5, m6, m7, m8, m9, m10, m11, m12, rfl⟩ := list13 hm
  have : tag = 1 ∨ tag = 2 ∨ tag = 3 ∨ tag = 4 ∨ tag = 5 ∨ tag = 6 ∨ tag = 7 ∨ tag = 8 ∨ tag = 9 ∨ tag = 10 ∨ tag = 11 ∨ tag = 12 ∨ tag = 13 := by omega
  rcases this with rfl | rfl | rfl | rfl | rfl | rfl | rfl | rfl | rfl | rfl | rfl | rfl | rfl <;> rfl
theorem leastM_set (m : List Int) (hm : m.length = 13) (tag v : Int) (h1 : 1 ≤ tag) (h2 : tag ≤ 13) (hv : 0 < v) : leastM (m.set (tag.toNat - 1) v) = mx (leastM m) (verT tag) := by
  obtain ⟨m0, m1, m2, m3, m4, m5, m6, m7, m8, m9, m10, m11, m12, rfl⟩ := list13 hm
  have : tag = 1 ∨ tag = 2 ∨ tag = 3 ∨ tag = 4 ∨ tag = 5 ∨ tag = 6 ∨ tag = 7 ∨ tag = 8 ∨ tag = 9 ∨ tag = 10 ∨ tag = 11 ∨ tag = 12 ∨ tag = 13 := by omega
  rcases this with rfl | rfl | rfl | rfl | rfl | rfl | rfl | rfl | rfl | rfl | rfl | rfl | rfl <;> simp only [leastM, mx, verT] <;> simp <;> (repeat' split) <;> omega
structure RB (n2 n4 : Nat) (m : List Int) (w W : World) : Prop where
  h2 : Blk W n2 (intsA z15) 46
  h4 : Blk W n4 (intsA m) 3
  hb : Below n2 w W
  lt : n2 < n4
section
variable {n2 n4 : Nat} {m : List Int} {w W W' : World}
theorem RB.drew (s : RB n2 n4 m w W) : RB n2 n4 m w W.drew := ⟨s.h2, s.h4, below_drew1 s.hb, s.lt⟩
theorem RB.drewN (s : RB n2 n4 m w W) (n : Nat) : RB n2 n4 m w (W.drewN n) := ⟨s.h2, s.h4, pw_below_drewN s.hb n, s.lt⟩
theorem RB.below (s : RB n2 n4 m w W) (hb : Below W.heap.size W W') : RB n2 n4 m w W' := ⟨s.h2.below hb s.h2.lt, s.h4.below hb s.h4.lt, s.hb.trans (hb.mono (Nat.le_of_lt s.h2.lt)), s.lt⟩
theorem RB.alloc (s : RB n2 n4 m w W) (o : Obj) : RB n2 n4 m w (W.alloc o) := s.below (below_alloc (Below.refl _ _) o)
theorem RB.grown {g : Nat} (s : RB n2 n4 m w W) (hg : W.grownBy W' (some g)) (h : n4 < g) : RB n2 n4 m w W' := ⟨s.h2.grown hg (by have := s.lt; omega), s.h4.grown hg (by omega), below_grown s.hb hg (by have := s.lt; omega) (Nat.le_of_lt s.h2.lt), s.lt⟩
end
theorem wp_store_blk {P : Program} {o : Oper} {a : Act} {w : World} {K : Act → World → Prop} {Q : Exit → Act → World → Prop} (ty : TypeId) (x y : Operand) (ho : o.op = .store ty x y)
    (g : Nat) (cells : Array Value) (hx : a.eval x = .pointer (some ⟨g, 0, none⟩)) (hy : a.eval y = .agg cells) (t : TypeId) (old : Array Value) (hg : Blk w g old t) (hi : (P.info? ty).map (·.size) = some cells.size)
    (hold : old.size = cells.size) (h1 : cells.all (·.oneCell') = true) (h : ∀ W', Blk W' g cells t → w.grownBy W' (some g) → K (a.put o.dst undef) W') : o.wp P a w K Q :=
  wp_store_row ty x y ho g cells hx hy t old hg hi hold h1 (h _ (Blk.setRow hg cells) (grown_setRow w g cells))
theorem rangeI_of {W : World} {b : Nat} {l : List Int} {t : TypeId} (h : Blk W b (intsA l) t) : W.rangeAt b 0 (l.map (Value.int .i64)) := fun j u hu => by
  rw [Nat.zero_add]; exact h.cell j u (by simpa [intsA] using hu)
theorem yieldsIf_build {P : Program} {ops : Array Oper} {S : World → Prop} {op : Oper} {a : Act} (hw : Region.wanted op (yielded ops a.tmps) = true) (t : TypeId) (parts : Array (Nat × Operand)) (ho : op.op = .build t parts) (cs : Array Value)
    (hf : P.built t (parts.map fun (i, x) => (i, a.eval x)).toList = some cs) : YieldsIf P ops S op (.agg cs) a :=
  .inl ⟨hw, fun w _ => by
    unfold execOp
    simp only [ho, Sem.run_bind, run_build w t _ cs hf, Result.andThen_ok]
    rfl⟩
def finU (m0 m1 m11 : Int) (t0 t1 t2 t3 t4 t5 t6 t7 t8 t9 t10 : Int) : List Int × Int := if 0 < m11 ∧ t1 ≠ 4 then (z15, 9) else if 99 < m1 then (z15, 9) else if isB t0 t1 t2 t3 t4 t5 t6 t7 t8 t9 t10 = true then ([t0, t1, t2, t3, t4, t5, t6, t7, t8, t9, t10, m1, 0, 0, m0], 0) else (z15, 9)
theorem put_grownI (W : World) (g i : Nat) (u : Value) : W.grownBy (W.setCell ⟨g, i, none⟩ u) (some g) := ⟨rfl, rfl, rfl, by simp, fun k _ hk => Below.heap_setCell W ⟨g, i, none⟩ u k (fun e => hk (by rw [e]))⟩
set_option maxRecDepth 100000 in
set_option maxHeartbeats 4000000 in
theorem rg_ok (c : Code) (hc : q22 Try.f34 = some c) (w W : World) (n2 n4 n8 : Nat) (h48 : n4 < n8) (m0 m1 m2 m3 m4 m5 m6 m7 m8 m9 m10 m11 m12 t0 t1 t2 t3 t4 t5 t6 t7 t8 t9 t10 : Int) (hB : RB n2 n4 [m0, m1, m2, m3, m4, m5, m6, m7, m8, m9, m10, m11, m12] w W) (h8 : Blk W n8 (intsA [t0, t1, t2, t3, t4, t5, t6, t7, t8, t9, t10]) 42) (K : Act → World → Prop) (hK0 : ∀ a w', Code.ret.wp Try.prog (bodyPost Try.prog Try.f34 fun e w' => e = .returned (.tuple #[.agg (intsA (([t0, t1, t2, t3, t4, t5, t6, t7, t8, t9, t10, m1, 0, 0, m0], 0) : List Int × Int).1), .int .i64 (([t0, t1, t2, t3, t4, t5, t6, t7, t8, t9, t10, m1, 0, 0, m0], 0) : List Int × Int).2]) ∧ Below n2 w w') a w' → K a w') (u0 u1 u3 u5 u6 u7 u9 u10 u11 u12 u13 u14 u15 u16 u17 u18 u19 u20 u21 u22 u23 u24 u25 u26 u27 u28 u29 u30 u31 u32 u33 u34 u35 u36 u37 u38 u39 u40 u41 u42 u43 u44 u45 u46 u47 u48 u49 u50 u51 u52 u53 u54 u55 u56 u57 u58 u59 u60 u61 u62 u63 u64 u65 u66 u67 u68 u69 u70 u71 u72 u73 u74 u75 u76 u77 u78 u79 u80 u81 u82 u83 u84 u85 u86 u87 u88 u89 u90 u91 u92 u93 u94 u95 u96 u97 u98 u99 u100 u101 u102 u103 u104 u105 u106 u107 u108 u109 u110 u111 u112 u113 u114 u115 u116 u117 u118 u119 u120 u121 u122 u123 u124 u125 u126 u127 u128 u129 u130 u131 u132 u133 u134 u135 u136 u137 u138 u139 u140 u141 u142 u143 u144 u145 u146 u147 u148 u149 u150 u151 u152 u153 u154 u155 u156 u157 u158 u159 u160 : Value) :
    c.wp Try.prog (Exit.then K (bodyPost Try.prog Try.f34 fun e w' => e = .returned (.tuple #[.agg (intsA (([t0, t1, t2, t3, t4, t5, t6, t7, t8, t9, t10, m1, 0, 0, m0], 0) : List Int × Int).1), .int .i64 (([t0, t1, t2, t3, t4, t5, t6, t7, t8, t9, t10, m1, 0, 0, m0], 0) : List Int × Int).2]) ∧ Below n2 w w')) { tmps := #[u0, u1, .pointer (some ⟨n2, 0, none⟩), u3, .slice (some ⟨n4, 0, none⟩) 13 13, u5, u6, u7, .pointer (some ⟨n8, 0, none⟩), u9, u10, u11, u12, u13, u14, u15, u16, u17, u18, u19, u20, u21, u22, u23, u24, u25, u26, u27, u28, u29, u30, u31, u32, u33, u34, u35, u36, u37, u38, u39, u40, u41, u42, u43, u44, u45, u46, u47, u48, u49, u50, u51, u52, u53, u54, u55, u56, u57, u58, u59, u60, u61, u62, u63, u64, u65, u66, u67, u68, u69, u70, u71, u72, u73, u74, u75, u76, u77, u78, u79, u80, u81, u82, u83, u84, u85, u86, u87, u88, u89, u90, u91, u92, u93, u94, u95, u96, u97, u98, u99, u100, u101, u102, u103, u104, u105, u106, u107, u108, u109, u110, u111, u112, u113, u114, u115, u116, u117, u118, u119, u120, u121, u122, u123, u124, u125, u126, u127, u128, u129, u130, u131, u132, u133, u134, u135, u136, u137, u138, u139, u140, u141, u142, u143, u144, u145, u146, u147, u148, u149, u150, u151, u152, u153, u154, u155, u156, u157, u158, u159, u160], defers := [] } W := by
  obtain rfl := Option.some.inj ((rfl : q22 Try.f34 = some _).symm.trans hc)
  clear hc
  have HLT : Aside0 (n2 < n4 ∧ n4 < n8) := ⟨hB.lt, h48⟩
  have S1 : (∃ l : List Int, l.length = 15 ∧ Blk W n2 (intsA l) 46) ∧ Blk W n4 (intsA [m0, m1, m2, m3, m4, m5, m6, m7, m8, m9, m10, m11, m12]) 3 ∧ Blk W n8 (intsA [t0, t1, t2, t3, t4, t5, t6, t7, t8, t9, t10]) 42 ∧ Below n2 w W := ⟨⟨z15, rfl, hB.h2⟩, hB.h4, h8, hB.hb⟩
  clear hB h8 h48
  have S2 : (∃ l : List Int, l.length = 15 ∧ Blk W.drew n2 (intsA l) 46) ∧ Blk W.drew n4 (intsA [m0, m1, m2, m3, m4, m5, m6, m7, m8, m9, m10, m11, m12]) 3 ∧ Blk W.drew n8 (intsA [t0, t1, t2, t3, t4, t5, t6, t7, t8, t9, t10]) 42 ∧ Below n2 w W.drew := ⟨S1.1, S1.2.1, S1.2.2.1, below_drew1 S1.2.2.2⟩
  clear S1
  refine wp_region_held_drew (S := fun W' => (∃ l : List Int, l.length = 15 ∧ Blk W' n2 (intsA l) 46) ∧ Blk W' n4 (intsA [m0, m1, m2, m3, m4, m5, m6, m7, m8, m9, m10, m11, m12]) 3 ∧ Blk W' n8 (intsA [t0, t1, t2, t3, t4, t5, t6, t7, t8, t9, t10]) 42 ∧ Below n2 w W') (by kernel_rfl) S2 (fun S0 => ?_)
  generalize W.drew = W1 at *
  clear S2
  refine wpAnyH_take (i := 0) rfl (by kernel_rfl) (by kernel_rfl) (by kernel_rfl) (fun _ _ _ h => h) (yieldsIf_load_mid (by kernel_rfl) 42 _ rfl n8 0 rfl ([t0, t1, t2, t3, t4, t5, t6, t7, t8, t9, t10].map (Value.int .i64)) _ (fun w s => rangeI_of s.2.2.1) Try.underlying42 rfl (by kernel_rfl)) S0 ?_
  try simp only [Act.put, List.getElem_toArray, List.getElem_cons_zero, List.getElem_cons_succ, List.setIfInBounds_toArray, List.set_cons_zero, List.set_cons_succ]
  refine wpAnyH_take (i := 1) (v := .slice (some ⟨n4, 0, none⟩) 13 13) rfl (by kernel_rfl) (by kernel_rfl) (by kernel_rfl) (fun _ _ _ h => h) (Or.inl ⟨by rfl, ?_⟩) S0 ?_
  · intro w hSw; go_simp
    try rfl
  try simp only [Act.put, List.getElem_toArray, List.getElem_cons_zero, List.getElem_cons_succ, List.setIfInBounds_toArray, List.set_cons_zero, List.set_cons_succ]
  refine wpAnyH_take (i := 2) (v := .pointer (some ⟨n4, 1, none⟩)) rfl (by kernel_rfl) (by kernel_rfl) (by kernel_rfl) (fun _ _ _ h => h) (Or.inl ⟨by rfl, ?_⟩) S0 ?_
  · intro w hSw; go_simp
    try rfl
  try simp only [Act.put, List.getElem_toArray, List.getElem_cons_zero, List.getElem_cons_succ, List.setIfInBounds_toArray, List.set_cons_zero, List.set_cons_succ]
  refine wpAnyH_take (i := 3) (v := .int .i64 m1) rfl (by kernel_rfl) (by kernel_rfl) (by kernel_rfl) (fun _ _ _ h => h) (Or.inl ⟨by rfl, ?_⟩) S0 ?_
  · intro w hSw; have c1 := hSw.2.1.cell 1 _ rfl; go_simp
    try rfl
  try simp only [Act.put, List.getElem_toArray, List.getElem_cons_zero, List.getElem_cons_succ, List.setIfInBounds_toArray, List.set_cons_zero, List.set_cons_succ]
  refine wpAnyH_take (i := 4) (v := .slice (some ⟨n4, 0, none⟩) 13 13) rfl (by kernel_rfl) (by kernel_rfl) (by kernel_rfl) (fun _ _ _ h => h) (Or.inl ⟨by rfl, ?_⟩) S0 ?_
  · intro w hSw; go_simp
    try rfl
  try simp only [Act.put, List.getElem_toArray, List.getElem_cons_zero, List.getElem_cons_succ, List.setIfInBounds_toArray, List.set_cons_zero, List.set_cons_succ]
  refine wpAnyH_take (i := 5) (v := .pointer (some ⟨n4, 0, none⟩)) rfl (by kernel_rfl) (by kernel_rfl) (by kernel_rfl) (fun _ _ _ h => h) (Or.inl ⟨by rfl, ?_⟩) S0 ?_
  · intro w hSw; go_simp
    try rfl
  try simp only [Act.put, List.getElem_toArray, List.getElem_cons_zero, List.getElem_cons_succ, List.setIfInBounds_toArray, List.set_cons_zero, List.set_cons_succ]
  refine wpAnyH_take (i := 6) (v := .int .i64 m0) rfl (by kernel_rfl) (by kernel_rfl) (by kernel_rfl) (fun _ _ _ h => h) (Or.inl ⟨by rfl, ?_⟩) S0 ?_
  · intro w hSw; have c0 := hSw.2.1.cell 0 _ rfl; go_simp
    try rfl
  try simp only [Act.put, List.getElem_toArray, List.getElem_cons_zero, List.getElem_cons_succ, List.setIfInBounds_toArray, List.set_cons_zero, List.set_cons_succ]
  refine wpAnyH_take (i := 7) rfl (by kernel_rfl) (by kernel_rfl) (by kernel_rfl) (fun _ _ _ h => h) (yieldsIf_build (by kernel_rfl) 46 _ rfl (intsA [t0, t1, t2, t3, t4, t5, t6, t7, t8, t9, t10, m1, 0, 0, m0]) (by kernel_rfl)) S0 ?_
  try simp only [Act.put, List.getElem_toArray, List.getElem_cons_zero, List.getElem_cons_succ, List.setIfInBounds_toArray, List.set_cons_zero, List.set_cons_succ]
  obtain ⟨l2, hl15, hl2⟩ := S0.1
  refine wpAnyH_ready (rs := [8]) (by kernel_rfl) (by simp) ?_
  refine AllReadyH.cons rfl (fun K_ hK => ?_) AllReadyH.nil
  rw [if_pos (show _ = true by kernel_rfl)]
  refine wp_store_blk 46 (.tmp 2) (.tmp 160) rfl n2 (intsA [t0, t1, t2, t3, t4, t5, t6, t7, t8, t9, t10, m1, 0, 0, m0]) rfl rfl 46 (intsA l2) hl2 (by kernel_rfl) (by rw [ints_size, hl15]; rfl) (by kernel_rfl) ?_
  intro w9 hv hg
  have gb := Aside0.mk (below_grown S0.2.2.2 hg (Nat.le_refl _) (Nat.le_of_lt hl2.lt))
  have gv := Aside0.mk hv
  replace S0 : (∃ l : List Int, l.length = 15 ∧ Blk w9 n2 (intsA l) 46) ∧ Blk w9 n4 (intsA [m0, m1, m2, m3, m4, m5, m6, m7, m8, m9, m10, m11, m12]) 3 ∧ Blk w9 n8 (intsA [t0, t1, t2, t3, t4, t5, t6, t7, t8, t9, t10]) 42 ∧ Below n2 w w9 := ⟨⟨_, rfl, hv⟩, S0.2.1.grown hg (by have := HLT.out; omega), S0.2.2.1.grown hg (by have := HLT.out; omega), gb.out⟩
  clear hv hg hl2
  refine hK.out _ _ S0 (fun _ => ?_)
  clear hK K_
  try simp only [Act.put, List.getElem_toArray, List.getElem_cons_zero, List.getElem_cons_succ, List.setIfInBounds_toArray, List.set_cons_zero, List.set_cons_succ]
  refine wpAnyH_take (i := 9) (v := .int .i64 0) rfl (by kernel_rfl) (by kernel_rfl) (by kernel_rfl) (fun _ _ _ h => h) (Or.inl ⟨by rfl, ?_⟩) S0 ?_
  · intro w hSw; go_simp
    try rfl
  try simp only [Act.put, List.getElem_toArray, List.getElem_cons_zero, List.getElem_cons_succ, List.setIfInBounds_toArray, List.set_cons_zero, List.set_cons_succ]
  refine wpAnyH_done (by kernel_rfl) ?_ _
  refine hK0 _ _ ?_
  go_wp2
  refine bodyPost_ret (v := .tuple #[.agg (intsA [t0, t1, t2, t3, t4, t5, t6, t7, t8, t9, t10, m1, 0, 0, m0]), .int .i64 0]) (results_row_tmp (fn := Try.f34) (p := 2) (u := 3) (by rfl) _ _ n2 46 _ _ (by rfl) gv.out Try.underlying46 rfl (by kernel_rfl)) rfl ⟨rfl, gb.out⟩
end Go.Proofs.Ytekgienbhpknlaa.G
end
section
set_option linter.unusedVariables false
set_option linter.unusedSimpArgs false
namespace Go.Proofs.Ytekgienbhpknlaa.G
open Go Go.RowKit Go.Proofs.YtekgienbhpknlaaW.PrintWords Go.Proofs.YtekgienbhpknlaaW.PrintLast Go.Proofs.YtekgienbhpknlaaW.PrintMore Go.Proofs.Ytekgienbhpknlaa.PL Go.Proofs.Ytekgienbhpknlaa.Q Go.Proofs.Ytekgienbhpknlaa.Pure
set_option maxRecDepth 100000 in
set_option maxHeartbeats 8000000 in
theorem rg_20 (c c1 c2 : Code) (hc : q20 Try.f34 = some c) (hc1 : c20 Try.f34 = some c1) (hc2 : p22 Try.f34 = some c2) (w W : World) (n2 n4 n8 : Nat) (h48 : n4 < n8) (m0 m1 m2 m3 m4 m5 m6 m7 m8 m9 m10 m11 m12 t0 t1 t2 t3 t4 t5 t6 t7 t8 t9 t10 : Int) (R : List Int × Int) (hR : finU m0 m1 m11 t0 t1 t2 t3 t4 t5 t6 t7 t8 t9 t10 = R) (hB : RB n2 n4 [m0, m1, m2, m3, m4, m5, m6, m7, m8, m9, m10, m11, m12] w W) (h8 : Blk W n8 (intsA [t0, t1, t2, t3, t4, t5, t6, t7, t8, t9, t10]) 42) (K1 K2 : Act → World → Prop) (h1 : ∀ a w', c1.wp Try.prog (Exit.then K2 (bodyPost Try.prog Try.f34 fun e w' => e = .returned (.tuple #[.agg (intsA R.1), .int .i64 R.2]) ∧ Below n2 w w')) a w' → K1 a w') (h2 : ∀ a w', c2.wp Try.prog (bodyPost Try.prog Try.f34 fun e w' => e = .returned (.tuple #[.agg (intsA R.1), .int .i64 R.2]) ∧ Below n2 w w') a w' → K2 a w') (u0 u1 u3 u5 u6 u7 u9 u10 u11 u12 u13 u14 u15 u16 u17 u18 u19 u20 u21 u22 u23 u24 u25 u26 u27 u28 u29 u30 u31 u32 u33 u34 u35 u36 u37 u38 u39 u40 u41 u42 u43 u44 u45 u46 u47 u48 u49 u50 u51 u52 u53 u54 u55 u56 u57 u58 u59 u60 u61 u62 u63 u64 u65 u66 u67 u68 u69 u70 u71 u72 u73 u74 u75 u76 u77 u78 u79 u80 u81 u82 u83 u84 u85 u86 u87 u88 u89 u90 u91 u92 u93 u94 u95 u96 u97 u98 u99 u100 u101 u102 u103 u104 u105 u106 u107 u108 u109 u110 u111 u112 u113 u114 u115 u116 u117 u118 u119 u120 u121 u122 u123 u124 u125 u126 u127 u128 u129 u130 u131 u132 u133 u134 u135 u136 u137 u138 u139 u140 u141 u142 u143 u144 u145 u146 u147 u148 u149 u150 u151 u152 u153 u154 u155 u156 u157 u158 u159 u160 : Value) :
    c.wp Try.prog (Exit.then K1 (Exit.then K2 (bodyPost Try.prog Try.f34 fun e w' => e = .returned (.tuple #[.agg (intsA R.1), .int .i64 R.2]) ∧ Below n2 w w'))) { tmps := #[u0, u1, .pointer (some ⟨n2, 0, none⟩), u3, .slice (some ⟨n4, 0, none⟩) 13 13, u5, u6, u7, .pointer (some ⟨n8, 0, none⟩), u9, u10, u11, u12, u13, u14, u15, u16, u17, u18, u19, u20, u21, u22, u23, u24, u25, u26, u27, u28, u29, u30, u31, u32, u33, u34, u35, u36, u37, u38, u39, u40, u41, u42, u43, u44, u45, u46, u47, u48, u49, u50, u51, u52, u53, u54, u55, u56, u57, u58, u59, u60, u61, u62, u63, u64, u65, u66, u67, u68, u69, u70, u71, u72, u73, u74, u75, u76, u77, u78, u79, u80, u81, u82, u83, u84, u85, u86, u87, u88, u89, u90, u91, u92, u93, u94, u95, u96, u97, u98, u99, u100, u101, u102, u103, u104, u105, u106, u107, u108, u109, u110, u111, u112, u113, u114, u115, u116, u117, u118, u119, u120, u121, u122, u123, u124, u125, u126, u127, u128, u129, u130, u131, u132, u133, u134, u135, u136, u137, u138, u139, u140, u141, u142, u143, u144, u145, u146, u147, u148, u149, u150, u151, u152, u153, u154, u155, u156, u157, u158, u159, u160], defers := [] } W := by
  obtain rfl := Option.some.inj ((rfl : q20 Try.f34 = some _).symm.trans hc)
  obtain rfl := Option.some.inj ((rfl : c20 Try.f34 = some _).symm.trans hc1)
  obtain rfl := Option.some.inj ((rfl : p22 Try.f34 = some _).symm.trans hc2)
  clear hc hc1 hc2
  have HLT := Aside0.mk h48
  have f1 : W.cell? ⟨n4, 1, none⟩ = some (.int .i64 m1) := hB.h4.cell 1 _ rfl
  have f11 : W.cell? ⟨n4, 11, none⟩ = some (.int .i64 m11) := hB.h4.cell 11 _ rfl
  have g0 : W.cell? ⟨n8, 0, none⟩ = some (.int .i64 t0) := h8.cell 0 _ rfl
  have g1 : W.cell? ⟨n8, 1, none⟩ = some (.int .i64 t1) := h8.cell 1 _ rfl
  have g2 : W.cell? ⟨n8, 2, none⟩ = some (.int .i64 t2) := h8.cell 2 _ rfl
  have g3 : W.cell? ⟨n8, 3, none⟩ = some (.int .i64 t3) := h8.cell 3 _ rfl
  have g4 : W.cell? ⟨n8, 4, none⟩ = some (.int .i64 t4) := h8.cell 4 _ rfl
  have g5 : W.cell? ⟨n8, 5, none⟩ = some (.int .i64 t5) := h8.cell 5 _ rfl
  have g6 : W.cell? ⟨n8, 6, none⟩ = some (.int .i64 t6) := h8.cell 6 _ rfl
  have g7 : W.cell? ⟨n8, 7, none⟩ = some (.int .i64 t7) := h8.cell 7 _ rfl
  have g8 : W.cell? ⟨n8, 8, none⟩ = some (.int .i64 t8) := h8.cell 8 _ rfl
  have g9 : W.cell? ⟨n8, 9, none⟩ = some (.int .i64 t9) := h8.cell 9 _ rfl
  have g10 : W.cell? ⟨n8, 10, none⟩ = some (.int .i64 t10) := h8.cell 10 _ rfl
  have HB := Aside0.mk hB
  have H8 := Aside0.mk h8
  clear hB h8 h48
  by_cases hu : 0 < m11
  · by_cases hk : t1 = 4
    · subst hk
      rw [finU, if_neg (fun h => h.2 rfl)] at hR
      by_cases hy : 99 < m1
      · rw [if_pos hy] at hR
        have HRR := Aside0.mk hR
        clear hR
        go_wp2_with (first
          | (refine wpList_build_as rfl 46 _ rfl (intsA z15) (by as_aux_lemma => kernel_rfl) ?_)
          | (refine wpList_store_blk rfl 46 (.tmp 2) (.tmp 152) rfl n2 (intsA z15) rfl rfl 46 _ HB.out.h2 (by kernel_rfl) (by kernel_rfl) (by kernel_rfl) ?_; intro w9 hv hg; have gb := Aside0.mk (below_grown HB.out.hb hg (Nat.le_refl _) (Nat.le_of_lt HB.out.h2.lt)); have gv := Aside0.mk hv; clear hv hg)
          | (refine h1 _ _ ?_)
          | (refine h2 _ _ ?_))
        refine bodyPost_ret (v := .tuple #[.agg (intsA z15), .int .i64 9]) (results_row_tmp (fn := Try.f34) (p := 2) (u := 3) (by rfl) _ _ n2 46 _ _ (by rfl) gv.out Try.underlying46 rfl (by kernel_rfl)) rfl ⟨by rw [← HRR.out], gb.out⟩
      · rw [if_neg hy] at hR
        cases hI : isB t0 4 t2 t3 t4 t5 t6 t7 t8 t9 t10
        · rw [hI, if_neg (by decide)] at hR
          have HRR := Aside0.mk hR
          have HIS := Aside0.mk hI
          clear hR hI
          go_wp2_with (first
            | (go_at_call 41; refine (gatelineref09_Is.calls 2 t0 4 t2 t3 t4 t5 t6 t7 t8 t9 t10 _ _ (refIs_f 0 t0 4 t2 t3 t4 t5 t6 t7 t8 t9 t10)).mono ?_; rintro e w5 ⟨rfl, hb5⟩; rw [HIS.out]; have L5 := Aside0.mk (HB.out.below hb5); have L8 := Aside0.mk (H8.out.below hb5 H8.out.lt); clear hb5 f1 f11 g0 g1 g2 g3 g4 g5 g6 g7 g8 g9 g10)
            | (refine wpList_build_as rfl 46 _ rfl (intsA z15) (by as_aux_lemma => kernel_rfl) ?_)
            | (refine wpList_store_blk rfl 46 (.tmp 2) (.tmp 152) rfl n2 (intsA z15) rfl rfl 46 _ L5.out.h2 (by kernel_rfl) (by kernel_rfl) (by kernel_rfl) ?_; intro w9 hv hg; have gb := Aside0.mk (below_grown L5.out.hb hg (Nat.le_refl _) (Nat.le_of_lt L5.out.h2.lt)); have gv := Aside0.mk hv; clear hv hg)
            | (refine h1 _ _ ?_)
            | (refine h2 _ _ ?_))
          refine bodyPost_ret (v := .tuple #[.agg (intsA z15), .int .i64 9]) (results_row_tmp (fn := Try.f34) (p := 2) (u := 3) (by rfl) _ _ n2 46 _ _ (by rfl) gv.out Try.underlying46 rfl (by kernel_rfl)) rfl ⟨by rw [← HRR.out], gb.out⟩
        · rw [hI, if_pos rfl] at hR
          subst hR
          have HIS := Aside0.mk hI
          clear hI
          go_wp2_with (first
            | (go_at_call 41; refine (gatelineref09_Is.calls 2 t0 4 t2 t3 t4 t5 t6 t7 t8 t9 t10 _ _ (refIs_f 0 t0 4 t2 t3 t4 t5 t6 t7 t8 t9 t10)).mono ?_; rintro e w5 ⟨rfl, hb5⟩; rw [HIS.out]; have L5 := Aside0.mk (HB.out.below hb5); have L8 := Aside0.mk (H8.out.below hb5 H8.out.lt); clear hb5 f1 f11 g0 g1 g2 g3 g4 g5 g6 g7 g8 g9 g10)
            | (refine h1 _ _ ?_)
            | (refine h2 _ _ ?_)
            | ((with_reducible show Code.wp _ (Code.region 22 _ _) _ _ _); exact rg_ok _ rfl w w5 n2 n4 n8 HLT.out m0 m1 m2 m3 m4 m5 m6 m7 m8 m9 m10 m11 m12 t0 4 t2 t3 t4 t5 t6 t7 t8 t9 t10 L5.out L8.out _ (by assumption) _ _ _ _ _ _ _ _ _ _ _ _ _ _ _ _ _ _ _ _ _ _ _ _ _ _ _ _ _ _ _ _ _ _ _ _ _ _ _ _ _ _ _ _ _ _ _ _ _ _ _ _ _ _ _ _ _ _ _ _ _ _ _ _ _ _ _ _ _ _ _ _ _ _ _ _ _ _ _ _ _ _ _ _ _ _ _ _ _ _ _ _ _ _ _ _ _ _ _ _ _ _ _ _ _ _ _ _ _ _ _ _ _ _ _ _ _ _ _ _ _ _ _ _ _ _ _ _ _ _ _ _ _ _ _ _ _ _ _ _ _ _ _ _ _ _ _ _ _ _ _ _ _ _ _ _ _ _))
    · rw [finU, if_pos ⟨hu, hk⟩] at hR
      have HRR := Aside0.mk hR
      clear hR
      go_wp2_with (first
        | (refine wpList_build_as rfl 46 _ rfl (intsA z15) (by as_aux_lemma => kernel_rfl) ?_)
        | (refine wpList_store_blk rfl 46 (.tmp 2) (.tmp 152) rfl n2 (intsA z15) rfl rfl 46 _ HB.out.h2 (by kernel_rfl) (by kernel_rfl) (by kernel_rfl) ?_; intro w9 hv hg; have gb := Aside0.mk (below_grown HB.out.hb hg (Nat.le_refl _) (Nat.le_of_lt HB.out.h2.lt)); have gv := Aside0.mk hv; clear hv hg)
        | (refine h1 _ _ ?_)
        | (refine h2 _ _ ?_))
      refine bodyPost_ret (v := .tuple #[.agg (intsA z15), .int .i64 9]) (results_row_tmp (fn := Try.f34) (p := 2) (u := 3) (by rfl) _ _ n2 46 _ _ (by rfl) gv.out Try.underlying46 rfl (by kernel_rfl)) rfl ⟨by rw [← HRR.out], gb.out⟩
  · rw [finU, if_neg (fun h => hu h.1)] at hR
    by_cases hy : 99 < m1
    · rw [if_pos hy] at hR
      have HRR := Aside0.mk hR
      clear hR
      go_wp2_with (first
        | (refine wpList_build_as rfl 46 _ rfl (intsA z15) (by as_aux_lemma => kernel_rfl) ?_)
        | (refine wpList_store_blk rfl 46 (.tmp 2) (.tmp 152) rfl n2 (intsA z15) rfl rfl 46 _ HB.out.h2 (by kernel_rfl) (by kernel_rfl) (by kernel_rfl) ?_; intro w9 hv hg; have gb := Aside0.mk (below_grown HB.out.hb hg (Nat.le_refl _) (Nat.le_of_lt HB.out.h2.lt)); have gv := Aside0.mk hv; clear hv hg)
        | (refine h1 _ _ ?_)
        | (refine h2 _ _ ?_))
      refine bodyPost_ret (v := .tuple #[.agg (intsA z15), .int .i64 9]) (results_row_tmp (fn := Try.f34) (p := 2) (u := 3) (by rfl) _ _ n2 46 _ _ (by rfl) gv.out Try.underlying46 rfl (by kernel_rfl)) rfl ⟨by rw [← HRR.out], gb.out⟩
    · rw [if_neg hy] at hR
      cases hI : isB t0 t1 t2 t3 t4 t5 t6 t7 t8 t9 t10
      · rw [hI, if_neg (by decide)] at hR
        have HRR := Aside0.mk hR
        have HIS := Aside0.mk hI
        clear hR hI
        go_wp2_with (first
          | (go_at_call 41; refine (gatelineref09_Is.calls 2 t0 t1 t2 t3 t4 t5 t6 t7 t8 t9 t10 _ _ (refIs_f 0 t0 t1 t2 t3 t4 t5 t6 t7 t8 t9 t10)).mono ?_; rintro e w5 ⟨rfl, hb5⟩; rw [HIS.out]; have L5 := Aside0.mk (HB.out.below hb5); have L8 := Aside0.mk (H8.out.below hb5 H8.out.lt); clear hb5 f1 f11 g0 g1 g2 g3 g4 g5 g6 g7 g8 g9 g10)
          | (refine wpList_build_as rfl 46 _ rfl (intsA z15) (by as_aux_lemma => kernel_rfl) ?_)
          | (refine wpList_store_blk rfl 46 (.tmp 2) (.tmp 152) rfl n2 (intsA z15) rfl rfl 46 _ L5.out.h2 (by kernel_rfl) (by kernel_rfl) (by kernel_rfl) ?_; intro w9 hv hg; have gb := Aside0.mk (below_grown L5.out.hb hg (Nat.le_refl _) (Nat.le_of_lt L5.out.h2.lt)); have gv := Aside0.mk hv; clear hv hg)
          | (refine h1 _ _ ?_)
          | (refine h2 _ _ ?_))
        refine bodyPost_ret (v := .tuple #[.agg (intsA z15), .int .i64 9]) (results_row_tmp (fn := Try.f34) (p := 2) (u := 3) (by rfl) _ _ n2 46 _ _ (by rfl) gv.out Try.underlying46 rfl (by kernel_rfl)) rfl ⟨by rw [← HRR.out], gb.out⟩
      · rw [hI, if_pos rfl] at hR
        subst hR
        have HIS := Aside0.mk hI
        clear hI
        go_wp2_with (first
          | (go_at_call 41; refine (gatelineref09_Is.calls 2 t0 t1 t2 t3 t4 t5 t6 t7 t8 t9 t10 _ _ (refIs_f 0 t0 t1 t2 t3 t4 t5 t6 t7 t8 t9 t10)).mono ?_; rintro e w5 ⟨rfl, hb5⟩; rw [HIS.out]; have L5 := Aside0.mk (HB.out.below hb5); have L8 := Aside0.mk (H8.out.below hb5 H8.out.lt); clear hb5 f1 f11 g0 g1 g2 g3 g4 g5 g6 g7 g8 g9 g10)
          | (refine h1 _ _ ?_)
          | (refine h2 _ _ ?_)
          | ((with_reducible show Code.wp _ (Code.region 22 _ _) _ _ _); exact rg_ok _ rfl w w5 n2 n4 n8 HLT.out m0 m1 m2 m3 m4 m5 m6 m7 m8 m9 m10 m11 m12 t0 t1 t2 t3 t4 t5 t6 t7 t8 t9 t10 L5.out L8.out _ (by assumption) _ _ _ _ _ _ _ _ _ _ _ _ _ _ _ _ _ _ _ _ _ _ _ _ _ _ _ _ _ _ _ _ _ _ _ _ _ _ _ _ _ _ _ _ _ _ _ _ _ _ _ _ _ _ _ _ _ _ _ _ _ _ _ _ _ _ _ _ _ _ _ _ _ _ _ _ _ _ _ _ _ _ _ _ _ _ _ _ _ _ _ _ _ _ _ _ _ _ _ _ _ _ _ _ _ _ _ _ _ _ _ _ _ _ _ _ _ _ _ _ _ _ _ _ _ _ _ _ _ _ _ _ _ _ _ _ _ _ _ _ _ _ _ _ _ _ _ _ _ _ _ _ _ _ _ _ _ _))
end Go.Proofs.Ytekgienbhpknlaa.G
end
section
set_option linter.unusedVariables false
set_option linter.unusedSimpArgs false
namespace Go.Proofs.Ytekgienbhpknlaa.G
open Go Go.RowKit Go.Proofs.YtekgienbhpknlaaW.PrintWords Go.Proofs.YtekgienbhpknlaaW.PrintLast Go.Proofs.YtekgienbhpknlaaW.PrintMore Go.Proofs.Ytekgienbhpknlaa.PL Go.Proofs.Ytekgienbhpknlaa.Q Go.Proofs.Ytekgienbhpknlaa.Pure
set_option maxRecDepth 100000 in
set_option maxHeartbeats 8000000 in
theorem rg_17 (c c1 : Code) (hc : q17 Try.f34 = some c) (hc1 : p18 Try.f34 = some c1) (w W : World) (n2 n4 : Nat) (m0 m1 m2 m3 m4 m5 m6 m7 m8 m9 m10 m11 m12 : Int) (R : List Int × Int) (hR : (if m2 = 4 then finU m0 m1 m11 m3 m2 m4 m5 m6 m7 m8 m9 m10 m11 m12 else finU m0 m1 m11 m3 m2 m4 m5 m6 m7 m8 m9 m10 (Int.tmod m2 3) m12) = R) (hB : RB n2 n4 [m0, m1, m2, m3, m4, m5, m6, m7, m8, m9, m10, m11, m12] w W) (K : Act → World → Prop) (h1 : ∀ a w', c1.wp Try.prog (bodyPost Try.prog Try.f34 fun e w' => e = .returned (.tuple #[.agg (intsA R.1), .int .i64 R.2]) ∧ Below n2 w w') a w' → K a w') (u0 u1 u3 u5 u6 u7 u8 u9 u10 u11 u12 u13 u14 u15 u16 u17 u18 u19 u20 u21 u22 u23 u24 u25 u26 u27 u28 u29 u30 u31 u32 u33 u34 u35 u36 u37 u38 u39 u40 u41 u42 u43 u44 u45 u46 u47 u48 u49 u50 u51 u52 u53 u54 u55 u56 u57 u58 u59 u60 u61 u62 u63 u64 u65 u66 u67 u68 u69 u70 u71 u72 u73 u74 u75 u76 u77 u78 u79 u80 u81 u82 u83 u84 u85 u86 u87 u88 u89 u90 u91 u92 u93 u94 u95 u96 u97 u98 u99 u100 u101 u102 u103 u104 u105 u106 u107 u108 u109 u110 u111 u112 u113 u114 u115 u116 u117 u118 u119 u120 u121 u122 u123 u124 u125 u126 u127 u128 u129 u130 u131 u132 u133 u134 u135 u136 u137 u138 u139 u140 u141 u142 u143 u144 u145 u146 u147 u148 u149 u150 u151 u152 u153 u154 u155 u156 u157 u158 u159 u160 : Value) :
    c.wp Try.prog (Exit.then K (bodyPost Try.prog Try.f34 fun e w' => e = .returned (.tuple #[.agg (intsA R.1), .int .i64 R.2]) ∧ Below n2 w w')) { tmps := #[u0, u1, .pointer (some ⟨n2, 0, none⟩), u3, .slice (some ⟨n4, 0, none⟩) 13 13, u5, u6, u7, u8, u9, u10, u11, u12, u13, u14, u15, u16, u17, u18, u19, u20, u21, u22, u23, u24, u25, u26, u27, u28, u29, u30, u31, u32, u33, u34, u35, u36, u37, u38, u39, u40, u41, u42, u43, u44, u45, u46, u47, u48, u49, u50, u51, u52, u53, u54, u55, u56, u57, u58, u59, u60, u61, u62, u63, u64, u65, u66, u67, u68, u69, u70, u71, u72, u73, u74, u75, u76, u77, u78, u79, u80, u81, u82, u83, u84, u85, u86, u87, u88, u89, u90, u91, u92, u93, u94, u95, u96, u97, u98, u99, u100, u101, u102, u103, u104, u105, u106, u107, u108, u109, u110, u111, u112, u113, u114, u115, u116, u117, u118, u119, u120, u121, u122, u123, u124, u125, u126, u127, u128, u129, u130, u131, u132, u133, u134, u135, u136, u137, u138, u139, u140, u141, u142, u143, u144, u145, u146, u147, u148, u149, u150, u151, u152, u153, u154, u155, u156, u157, u158, u159, u160], defers := [] } W := by
  obtain rfl := Option.some.inj ((rfl : q17 Try.f34 = some _).symm.trans hc)
  obtain rfl := Option.some.inj ((rfl : p18 Try.f34 = some _).symm.trans hc1)
  clear hc hc1
  have HBD := Aside0.mk hB.drew
  clear hB
  refine wp_region_held_drew (S := fun W' => RB n2 n4 [m0, m1, m2, m3, m4, m5, m6, m7, m8, m9, m10, m11, m12] w W') (by kernel_rfl) HBD.out (fun S0 => ?_)
  generalize W.drew = W1 at *
  have HB1 := HBD
  clear HBD
  refine wpAnyH_take (i := 0) (v := .slice (some ⟨n4, 0, none⟩) 13 13) rfl (by kernel_rfl) (by kernel_rfl) (by kernel_rfl) (fun _ _ _ h => h) (Or.inl ⟨by rfl, ?_⟩) S0 ?_
  · intro w hSw; go_simp
    try rfl
  try simp only [Act.put, List.getElem_toArray, List.getElem_cons_zero, List.getElem_cons_succ, List.setIfInBounds_toArray, List.set_cons_zero, List.set_cons_succ]
  refine wpAnyH_take (i := 1) (v := .pointer (some ⟨n4, 2, none⟩)) rfl (by kernel_rfl) (by kernel_rfl) (by kernel_rfl) (fun _ _ _ h => h) (Or.inl ⟨by rfl, ?_⟩) S0 ?_
  · intro w hSw; go_simp
    try rfl
  try simp only [Act.put, List.getElem_toArray, List.getElem_cons_zero, List.getElem_cons_succ, List.setIfInBounds_toArray, List.set_cons_zero, List.set_cons_succ]
  refine wpAnyH_take (i := 2) (v := .int .i64 m2) rfl (by kernel_rfl) (by kernel_rfl) (by kernel_rfl) (fun _ _ _ h => h) (Or.inl ⟨by rfl, ?_⟩) S0 ?_
  · intro w hSw; have cc := hSw.h4.cell 2 _ rfl; go_simp
    try rfl
  try simp only [Act.put, List.getElem_toArray, List.getElem_cons_zero, List.getElem_cons_succ, List.setIfInBounds_toArray, List.set_cons_zero, List.set_cons_succ]
  refine wpAnyH_take (i := 3) (v := .slice (some ⟨n4, 0, none⟩) 13 13) rfl (by kernel_rfl) (by kernel_rfl) (by kernel_rfl) (fun _ _ _ h => h) (Or.inl ⟨by rfl, ?_⟩) S0 ?_
  · intro w hSw; go_simp
    try rfl
  try simp only [Act.put, List.getElem_toArray, List.getElem_cons_zero, List.getElem_cons_succ, List.setIfInBounds_toArray, List.set_cons_zero, List.set_cons_succ]
  refine wpAnyH_take (i := 4) (v := .pointer (some ⟨n4, 3, none⟩)) rfl (by kernel_rfl) (by kernel_rfl) (by kernel_rfl) (fun _ _ _ h => h) (Or.inl ⟨by rfl, ?_⟩) S0 ?_
  · intro w hSw; go_simp
    try rfl
  try simp only [Act.put, List.getElem_toArray, List.getElem_cons_zero, List.getElem_cons_succ, List.setIfInBounds_toArray, List.set_cons_zero, List.set_cons_succ]
  refine wpAnyH_take (i := 5) (v := .int .i64 m3) rfl (by kernel_rfl) (by kernel_rfl) (by kernel_rfl) (fun _ _ _ h => h) (Or.inl ⟨by rfl, ?_⟩) S0 ?_
  · intro w hSw; have cc := hSw.h4.cell 3 _ rfl; go_simp
    try rfl
  try simp only [Act.put, List.getElem_toArray, List.getElem_cons_zero, List.getElem_cons_succ, List.setIfInBounds_toArray, List.set_cons_zero, List.set_cons_succ]
  refine wpAnyH_take (i := 6) (v := .slice (some ⟨n4, 0, none⟩) 13 13) rfl (by kernel_rfl) (by kernel_rfl) (by kernel_rfl) (fun _ _ _ h => h) (Or.inl ⟨by rfl, ?_⟩) S0 ?_
  · intro w hSw; go_simp
    try rfl
  try simp only [Act.put, List.getElem_toArray, List.getElem_cons_zero, List.getElem_cons_succ, List.setIfInBounds_toArray, List.set_cons_zero, List.set_cons_succ]
  refine wpAnyH_take (i := 7) (v := .pointer (some ⟨n4, 4, none⟩)) rfl (by kernel_rfl) (by kernel_rfl) (by kernel_rfl) (fun _ _ _ h => h) (Or.inl ⟨by rfl, ?_⟩) S0 ?_
  · intro w hSw; go_simp
    try rfl
  try simp only [Act.put, List.getElem_toArray, List.getElem_cons_zero, List.getElem_cons_succ, List.setIfInBounds_toArray, List.set_cons_zero, List.set_cons_succ]
  refine wpAnyH_take (i := 8) (v := .int .i64 m4) rfl (by kernel_rfl) (by kernel_rfl) (by kernel_rfl) (fun _ _ _ h => h) (Or.inl ⟨by rfl, ?_⟩) S0 ?_
  · intro w hSw; have cc := hSw.h4.cell 4 _ rfl; go_simp
    try rfl
  try simp only [Act.put, List.getElem_toArray, List.getElem_cons_zero, List.getElem_cons_succ, List.setIfInBounds_toArray, List.set_cons_zero, List.set_cons_succ]
  refine wpAnyH_take (i := 9) (v := .slice (some ⟨n4, 0, none⟩) 13 13) rfl (by kernel_rfl) (by kernel_rfl) (by kernel_rfl) (fun _ _ _ h => h) (Or.inl ⟨by rfl, ?_⟩) S0 ?_
  · intro w hSw; go_simp
    try rfl
  try simp only [Act.put, List.getElem_toArray, List.getElem_cons_zero, List.getElem_cons_succ, List.setIfInBounds_toArray, List.set_cons_zero, List.set_cons_succ]
  refine wpAnyH_take (i := 10) (v := .pointer (some ⟨n4, 5, none⟩)) rfl (by kernel_rfl) (by kernel_rfl) (by kernel_rfl) (fun _ _ _ h => h) (Or.inl ⟨by rfl, ?_⟩) S0 ?_
  · intro w hSw; go_simp
    try rfl
  try simp only [Act.put, List.getElem_toArray, List.getElem_cons_zero, List.getElem_cons_succ, List.setIfInBounds_toArray, List.set_cons_zero, List.set_cons_succ]
  refine wpAnyH_take (i := 11) (v := .int .i64 m5) rfl (by kernel_rfl) (by kernel_rfl) (by kernel_rfl) (fun _ _ _ h => h) (Or.inl ⟨by rfl, ?_⟩) S0 ?_
  · intro w hSw; have cc := hSw.h4.cell 5 _ rfl; go_simp
    try rfl
  try simp only [Act.put, List.getElem_toArray, List.getElem_cons_zero, List.getElem_cons_succ, List.setIfInBounds_toArray, List.set_cons_zero, List.set_cons_succ]
  refine wpAnyH_take (i := 12) (v := .slice (some ⟨n4, 0, none⟩) 13 13) rfl (by kernel_rfl) (by kernel_rfl) (by kernel_rfl) (fun _ _ _ h => h) (Or.inl ⟨by rfl, ?_⟩) S0 ?_
  · intro w hSw; go_simp
    try rfl
  try simp only [Act.put, List.getElem_toArray, List.getElem_cons_zero, List.getElem_cons_succ, List.setIfInBounds_toArray, List.set_cons_zero, List.set_cons_succ]
  refine wpAnyH_take (i := 13) (v := .pointer (some ⟨n4, 6, none⟩)) rfl (by kernel_rfl) (by kernel_rfl) (by kernel_rfl) (fun _ _ _ h => h) (Or.inl ⟨by rfl, ?_⟩) S0 ?_
  · intro w hSw; go_simp
    try rfl
  try simp only [Act.put, List.getElem_toArray, List.getElem_cons_zero, List.getElem_cons_succ, List.setIfInBounds_toArray, List.set_cons_zero, List.set_cons_succ]
  refine wpAnyH_take (i := 14) (v := .int .i64 m6) rfl (by kernel_rfl) (by kernel_rfl) (by kernel_rfl) (fun _ _ _ h => h) (Or.inl ⟨by rfl, ?_⟩) S0 ?_
  · intro w hSw; have cc := hSw.h4.cell 6 _ rfl; go_simp
    try rfl
  try simp only [Act.put, List.getElem_toArray, List.getElem_cons_zero, List.getElem_cons_succ, List.setIfInBounds_toArray, List.set_cons_zero, List.set_cons_succ]
  refine wpAnyH_take (i := 15) (v := .slice (some ⟨n4, 0, none⟩) 13 13) rfl (by kernel_rfl) (by kernel_rfl) (by kernel_rfl) (fun _ _ _ h => h) (Or.inl ⟨by rfl, ?_⟩) S0 ?_
  · intro w hSw; go_simp
    try rfl
  try simp only [Act.put, List.getElem_toArray, List.getElem_cons_zero, List.getElem_cons_succ, List.setIfInBounds_toArray, List.set_cons_zero, List.set_cons_succ]
  refine wpAnyH_take (i := 16) (v := .pointer (some ⟨n4, 7, none⟩)) rfl (by kernel_rfl) (by kernel_rfl) (by kernel_rfl) (fun _ _ _ h => h) (Or.inl ⟨by rfl, ?_⟩) S0 ?_
  · intro w hSw; go_simp
    try rfl
  try simp only [Act.put, List.getElem_toArray, List.getElem_cons_zero, List.getElem_cons_succ, List.setIfInBounds_toArray, List.set_cons_zero, List.set_cons_succ]
  refine wpAnyH_take (i := 17) (v := .int .i64 m7) rfl (by kernel_rfl) (by kernel_rfl) (by kernel_rfl) (fun _ _ _ h => h) (Or.inl ⟨by rfl, ?_⟩) S0 ?_
  · intro w hSw; have cc := hSw.h4.cell 7 _ rfl; go_simp
    try rfl
  try simp only [Act.put, List.getElem_toArray, List.getElem_cons_zero, List.getElem_cons_succ, List.setIfInBounds_toArray, List.set_cons_zero, List.set_cons_succ]
  refine wpAnyH_take (i := 18) (v := .slice (some ⟨n4, 0, none⟩) 13 13) rfl (by kernel_rfl) (by kernel_rfl) (by kernel_rfl) (fun _ _ _ h => h) (Or.inl ⟨by rfl, ?_⟩) S0 ?_
  · intro w hSw; go_simp
    try rfl
  try simp only [Act.put, List.getElem_toArray, List.getElem_cons_zero, List.getElem_cons_succ, List.setIfInBounds_toArray, List.set_cons_zero, List.set_cons_succ]
  refine wpAnyH_take (i := 19) (v := .pointer (some ⟨n4, 8, none⟩)) rfl (by kernel_rfl) (by kernel_rfl) (by kernel_rfl) (fun _ _ _ h => h) (Or.inl ⟨by rfl, ?_⟩) S0 ?_
  · intro w hSw; go_simp
    try rfl
  try simp only [Act.put, List.getElem_toArray, List.getElem_cons_zero, List.getElem_cons_succ, List.setIfInBounds_toArray, List.set_cons_zero, List.set_cons_succ]
  refine wpAnyH_take (i := 20) (v := .int .i64 m8) rfl (by kernel_rfl) (by kernel_rfl) (by kernel_rfl) (fun _ _ _ h => h) (Or.inl ⟨by rfl, ?_⟩) S0 ?_
  · intro w hSw; have cc := hSw.h4.cell 8 _ rfl; go_simp
    try rfl
  try simp only [Act.put, List.getElem_toArray, List.getElem_cons_zero, List.getElem_cons_succ, List.setIfInBounds_toArray, List.set_cons_zero, List.set_cons_succ]
  refine wpAnyH_take (i := 21) (v := .slice (some ⟨n4, 0, none⟩) 13 13) rfl (by kernel_rfl) (by kernel_rfl) (by kernel_rfl) (fun _ _ _ h => h) (Or.inl ⟨by rfl, ?_⟩) S0 ?_
  · intro w hSw; go_simp
    try rfl
  try simp only [Act.put, List.getElem_toArray, List.getElem_cons_zero, List.getElem_cons_succ, List.setIfInBounds_toArray, List.set_cons_zero, List.set_cons_succ]
  refine wpAnyH_take (i := 22) (v := .pointer (some ⟨n4, 9, none⟩)) rfl (by kernel_rfl) (by kernel_rfl) (by kernel_rfl) (fun _ _ _ h => h) (Or.inl ⟨by rfl, ?_⟩) S0 ?_
  · intro w hSw; go_simp
    try rfl
  try simp only [Act.put, List.getElem_toArray, List.getElem_cons_zero, List.getElem_cons_succ, List.setIfInBounds_toArray, List.set_cons_zero, List.set_cons_succ]
  refine wpAnyH_take (i := 23) (v := .int .i64 m9) rfl (by kernel_rfl) (by kernel_rfl) (by kernel_rfl) (fun _ _ _ h => h) (Or.inl ⟨by rfl, ?_⟩) S0 ?_
  · intro w hSw; have cc := hSw.h4.cell 9 _ rfl; go_simp
    try rfl
  try simp only [Act.put, List.getElem_toArray, List.getElem_cons_zero, List.getElem_cons_succ, List.setIfInBounds_toArray, List.set_cons_zero, List.set_cons_succ]
  refine wpAnyH_take (i := 24) (v := .slice (some ⟨n4, 0, none⟩) 13 13) rfl (by kernel_rfl) (by kernel_rfl) (by kernel_rfl) (fun _ _ _ h => h) (Or.inl ⟨by rfl, ?_⟩) S0 ?_
  · intro w hSw; go_simp
    try rfl
  try simp only [Act.put, List.getElem_toArray, List.getElem_cons_zero, List.getElem_cons_succ, List.setIfInBounds_toArray, List.set_cons_zero, List.set_cons_succ]
  refine wpAnyH_take (i := 25) (v := .pointer (some ⟨n4, 10, none⟩)) rfl (by kernel_rfl) (by kernel_rfl) (by kernel_rfl) (fun _ _ _ h => h) (Or.inl ⟨by rfl, ?_⟩) S0 ?_
  · intro w hSw; go_simp
    try rfl
  try simp only [Act.put, List.getElem_toArray, List.getElem_cons_zero, List.getElem_cons_succ, List.setIfInBounds_toArray, List.set_cons_zero, List.set_cons_succ]
  refine wpAnyH_take (i := 26) (v := .int .i64 m10) rfl (by kernel_rfl) (by kernel_rfl) (by kernel_rfl) (fun _ _ _ h => h) (Or.inl ⟨by rfl, ?_⟩) S0 ?_
  · intro w hSw; have cc := hSw.h4.cell 10 _ rfl; go_simp
    try rfl
  try simp only [Act.put, List.getElem_toArray, List.getElem_cons_zero, List.getElem_cons_succ, List.setIfInBounds_toArray, List.set_cons_zero, List.set_cons_succ]
  refine wpAnyH_take (i := 27) (v := .slice (some ⟨n4, 0, none⟩) 13 13) rfl (by kernel_rfl) (by kernel_rfl) (by kernel_rfl) (fun _ _ _ h => h) (Or.inl ⟨by rfl, ?_⟩) S0 ?_
  · intro w hSw; go_simp
    try rfl
  try simp only [Act.put, List.getElem_toArray, List.getElem_cons_zero, List.getElem_cons_succ, List.setIfInBounds_toArray, List.set_cons_zero, List.set_cons_succ]
  refine wpAnyH_take (i := 28) (v := .pointer (some ⟨n4, 11, none⟩)) rfl (by kernel_rfl) (by kernel_rfl) (by kernel_rfl) (fun _ _ _ h => h) (Or.inl ⟨by rfl, ?_⟩) S0 ?_
  · intro w hSw; go_simp
    try rfl
  try simp only [Act.put, List.getElem_toArray, List.getElem_cons_zero, List.getElem_cons_succ, List.setIfInBounds_toArray, List.set_cons_zero, List.set_cons_succ]
  refine wpAnyH_take (i := 29) (v := .int .i64 m11) rfl (by kernel_rfl) (by kernel_rfl) (by kernel_rfl) (fun _ _ _ h => h) (Or.inl ⟨by rfl, ?_⟩) S0 ?_
  · intro w hSw; have cc := hSw.h4.cell 11 _ rfl; go_simp
    try rfl
  try simp only [Act.put, List.getElem_toArray, List.getElem_cons_zero, List.getElem_cons_succ, List.setIfInBounds_toArray, List.set_cons_zero, List.set_cons_succ]
  refine wpAnyH_take (i := 30) (v := .slice (some ⟨n4, 0, none⟩) 13 13) rfl (by kernel_rfl) (by kernel_rfl) (by kernel_rfl) (fun _ _ _ h => h) (Or.inl ⟨by rfl, ?_⟩) S0 ?_
  · intro w hSw; go_simp
    try rfl
  try simp only [Act.put, List.getElem_toArray, List.getElem_cons_zero, List.getElem_cons_succ, List.setIfInBounds_toArray, List.set_cons_zero, List.set_cons_succ]
  refine wpAnyH_take (i := 31) (v := .pointer (some ⟨n4, 12, none⟩)) rfl (by kernel_rfl) (by kernel_rfl) (by kernel_rfl) (fun _ _ _ h => h) (Or.inl ⟨by rfl, ?_⟩) S0 ?_
  · intro w hSw; go_simp
    try rfl
  try simp only [Act.put, List.getElem_toArray, List.getElem_cons_zero, List.getElem_cons_succ, List.setIfInBounds_toArray, List.set_cons_zero, List.set_cons_succ]
  refine wpAnyH_take (i := 32) (v := .int .i64 m12) rfl (by kernel_rfl) (by kernel_rfl) (by kernel_rfl) (fun _ _ _ h => h) (Or.inl ⟨by rfl, ?_⟩) S0 ?_
  · intro w hSw; have cc := hSw.h4.cell 12 _ rfl; go_simp
    try rfl
  try simp only [Act.put, List.getElem_toArray, List.getElem_cons_zero, List.getElem_cons_succ, List.setIfInBounds_toArray, List.set_cons_zero, List.set_cons_succ]
  refine wpAnyH_take (i := 33) rfl (by kernel_rfl) (by kernel_rfl) (by kernel_rfl) (fun _ _ _ h => h) (yieldsIf_build (by kernel_rfl) 42 _ rfl (intsA [m3, m2, m4, m5, m6, m7, m8, m9, m10, m11, m12]) (by kernel_rfl)) S0 ?_
  try simp only [Act.put, List.getElem_toArray, List.getElem_cons_zero, List.getElem_cons_succ, List.setIfInBounds_toArray, List.set_cons_zero, List.set_cons_succ]
  refine wpAnyH_ready (rs := [34]) (by kernel_rfl) (by simp) ?_
  refine AllReadyH.cons rfl (fun K_ hK => ?_) AllReadyH.nil
  rw [if_pos (show _ = true by kernel_rfl)]
  go_simp
  have hn := Blk.new W1 #[.int .i64 0, .int .i64 0, .int .i64 0, .int .i64 0, .int .i64 0, .int .i64 0, .int .i64 0, .int .i64 0, .int .i64 0, .int .i64 0, .int .i64 0] 42
  replace S0 := S0.alloc (.cells #[.int .i64 0, .int .i64 0, .int .i64 0, .int .i64 0, .int .i64 0, .int .i64 0, .int .i64 0, .int .i64 0, .int .i64 0, .int .i64 0, .int .i64 0] 42)
  refine hK.out _ _ S0 (fun _ => ?_)
  clear hK K_
  try simp only [Act.put, List.getElem_toArray, List.getElem_cons_zero, List.getElem_cons_succ, List.setIfInBounds_toArray, List.set_cons_zero, List.set_cons_succ]
  obtain ⟨n8, hn8⟩ : ∃ n, n = W1.heap.size := ⟨_, rfl⟩
  have L48 : Aside0 (n4 < n8) := ⟨by rw [hn8]; exact HB1.out.h4.lt⟩
  rw [← hn8] at hn
  try rw [← hn8]
  clear hn8
  generalize W1.alloc (.cells #[.int .i64 0, .int .i64 0, .int .i64 0, .int .i64 0, .int .i64 0, .int .i64 0, .int .i64 0, .int .i64 0, .int .i64 0, .int .i64 0, .int .i64 0] 42) = W2 at *
  refine wpAnyH_ready (rs := [35]) (by kernel_rfl) (by simp) ?_
  refine AllReadyH.cons rfl (fun K_ hK => ?_) AllReadyH.nil
  rw [if_pos (show _ = true by kernel_rfl)]
  refine wp_store_blk 42 (.tmp 8) (.tmp 124) rfl n8 (intsA [m3, m2, m4, m5, m6, m7, m8, m9, m10, m11, m12]) rfl rfl 42 _ hn (by kernel_rfl) (by kernel_rfl) (by kernel_rfl) ?_
  intro w9 hv hg
  replace S0 := S0.grown hg L48.out
  have H8 := Aside0.mk hv
  clear hg hn
  refine hK.out _ _ S0 (fun _ => ?_)
  clear hK K_
  try simp only [Act.put, List.getElem_toArray, List.getElem_cons_zero, List.getElem_cons_succ, List.setIfInBounds_toArray, List.set_cons_zero, List.set_cons_succ]
  refine wpAnyH_done (by kernel_rfl) ?_ _
  refine h1 _ _ ?_
  have S9 := Aside0.mk S0
  have k1 : w9.cell? ⟨n8, 1, none⟩ = some (.int .i64 m2) := hv.cell 1 _ rfl
  have k9 : w9.cell? ⟨n8, 9, none⟩ = some (.int .i64 m11) := hv.cell 9 _ rfl
  have kf : w9.frozen? ⟨n8, 9, none⟩ = false := hv.frozen 9
  clear S0 hv
  by_cases h4 : m2 = 4
  · subst h4
    rw [if_pos rfl] at hR
    have HRR := Aside0.mk hR
    clear hR
    go_upto_region 20 with (first | fail)
    exact rg_20 _ _ _ rfl rfl rfl w _ n2 n4 n8 L48.out m0 m1 4 m3 m4 m5 m6 m7 m8 m9 m10 m11 m12 (m3) 4 (m4) (m5) (m6) (m7) (m8) (m9) (m10) (m11) (m12) R HRR.out (S9.out) (H8.out) _ _ (by assumption) (by assumption) _ _ _ _ _ _ _ _ _ _ _ _ _ _ _ _ _ _ _ _ _ _ _ _ _ _ _ _ _ _ _ _ _ _ _ _ _ _ _ _ _ _ _ _ _ _ _ _ _ _ _ _ _ _ _ _ _ _ _ _ _ _ _ _ _ _ _ _ _ _ _ _ _ _ _ _ _ _ _ _ _ _ _ _ _ _ _ _ _ _ _ _ _ _ _ _ _ _ _ _ _ _ _ _ _ _ _ _ _ _ _ _ _ _ _ _ _ _ _ _ _ _ _ _ _ _ _ _ _ _ _ _ _ _ _ _ _ _ _ _ _ _ _ _ _ _ _ _ _ _ _ _ _ _ _ _ _ _
  · rw [if_neg h4] at hR
    have HRR := Aside0.mk hR
    clear hR
    go_upto_region 20 with (first | fail)
    exact rg_20 _ _ _ rfl rfl rfl w _ n2 n4 n8 L48.out m0 m1 m2 m3 m4 m5 m6 m7 m8 m9 m10 m11 m12 (m3) (m2) (m4) (m5) (m6) (m7) (m8) (m9) (m10) (Int.tmod m2 3) (m12) R HRR.out (S9.out.grown (put_grownI _ n8 9 _) L48.out) (H8.out.put 9 _ rfl) _ _ (by assumption) (by assumption) _ _ _ _ _ _ _ _ _ _ _ _ _ _ _ _ _ _ _ _ _ _ _ _ _ _ _ _ _ _ _ _ _ _ _ _ _ _ _ _ _ _ _ _ _ _ _ _ _ _ _ _ _ _ _ _ _ _ _ _ _ _ _ _ _ _ _ _ _ _ _ _ _ _ _ _ _ _ _ _ _ _ _ _ _ _ _ _ _ _ _ _ _ _ _ _ _ _ _ _ _ _ _ _ _ _ _ _ _ _ _ _ _ _ _ _ _ _ _ _ _ _ _ _ _ _ _ _ _ _ _ _ _ _ _ _ _ _ _ _ _ _ _ _ _ _ _ _ _ _ _ _ _ _ _ _ _ _
end Go.Proofs.Ytekgienbhpknlaa.G
end
section
set_option linter.unusedVariables false
set_option linter.unusedSimpArgs false
namespace Go.Proofs.Ytekgienbhpknlaa.G
open Go Go.RowKit Go.Proofs.YtekgienbhpknlaaW.PrintWords Go.Proofs.YtekgienbhpknlaaW.PrintLast Go.Proofs.YtekgienbhpknlaaW.PrintMore Go.Proofs.Ytekgienbhpknlaa.PL Go.Proofs.Ytekgienbhpknlaa.Q Go.Proofs.Ytekgienbhpknlaa.Pure
theorem low_err (m0 m1 m2 m3 m4 m5 m6 m7 m8 m9 m10 m11 m12 : Int) (h : m0 < 1 ∨ 3 < m0 ∨ (m0 < 2 ∧ 0 < m7) ∨ (m0 < 3 ∧ 0 < m8)) : ([m0, m1, m2, m3, m4, m5, m6, m7, m8, m9, m10, m11, m12] : List Int).getD 0 0 < leastM [m0, m1, m2, m3, m4, m5, m6, m7, m8, m9, m10, m11, m12] ∨ 3 < ([m0, m1, m2, m3, m4, m5, m6, m7, m8, m9, m10, m11, m12] : List Int).getD 0 0 := by
  show m0 < (if 0 < m8 then 3 else if 0 < m7 then 2 else 1) ∨ 3 < m0
  (repeat' split) <;> omega
theorem low_ok (m0 m1 m2 m3 m4 m5 m6 m7 m8 m9 m10 m11 m12 : Int) (h : ¬ (m0 < 1 ∨ 3 < m0 ∨ (m0 < 2 ∧ 0 < m7) ∨ (m0 < 3 ∧ 0 < m8))) : ¬ ([m0, m1, m2, m3, m4, m5, m6, m7, m8, m9, m10, m11, m12] : List Int).getD 0 0 < leastM [m0, m1, m2, m3, m4, m5, m6, m7, m8, m9, m10, m11, m12] ∧ ¬ 3 < ([m0, m1, m2, m3, m4, m5, m6, m7, m8, m9, m10, m11, m12] : List Int).getD 0 0 := by
  show ¬ m0 < (if 0 < m8 then 3 else if 0 < m7 then 2 else 1) ∧ ¬ 3 < m0
  (repeat' split) <;> omega
theorem finR_12 (m : List Int) (h : m.getD 0 0 < leastM m ∨ 3 < m.getD 0 0) : finR (cM m) (leastM m) = (z15, 12) := by
  unfold finR
  have e : (cM m).getD 14 0 = m.getD 0 0 := rfl
  rw [e]
  by_cases h1 : m.getD 0 0 < leastM m
  · rw [if_pos h1]
  · rw [if_neg h1, if_pos (by omega)]
theorem finR_ok (m0 m1 m2 m3 m4 m5 m6 m7 m8 m9 m10 m11 m12 : Int) (h : ¬ ([m0, m1, m2, m3, m4, m5, m6, m7, m8, m9, m10, m11, m12] : List Int).getD 0 0 < leastM [m0, m1, m2, m3, m4, m5, m6, m7, m8, m9, m10, m11, m12]) (h3 : ¬ 3 < ([m0, m1, m2, m3, m4, m5, m6, m7, m8, m9, m10, m11, m12] : List Int).getD 0 0) (hp : 0 ≤ m11) : finR (cM [m0, m1, m2, m3, m4, m5, m6, m7, m8, m9, m10, m11, m12]) (leastM [m0, m1, m2, m3, m4, m5, m6, m7, m8, m9, m10, m11, m12]) = if m2 = 4 then finU m0 m1 m11 m3 m2 m4 m5 m6 m7 m8 m9 m10 m11 m12 else finU m0 m1 m11 m3 m2 m4 m5 m6 m7 m8 m9 m10 (Int.tmod m2 3) m12 := by
  unfold finR
  have e : (cM [m0, m1, m2, m3, m4, m5, m6, m7, m8, m9, m10, m11, m12]).getD 14 0 = ([m0, m1, m2, m3, m4, m5, m6, m7, m8, m9, m10, m11, m12] : List Int).getD 0 0 := rfl
  rw [e, if_neg h, if_neg h3]
  show (if m2 = 4 then finT (cM [m0, m1, m2, m3, m4, m5, m6, m7, m8, m9, m10, m11, m12]) else if m11 = 0 then finT ((cM [m0, m1, m2, m3, m4, m5, m6, m7, m8, m9, m10, m11, m12]).set 9 (Int.tmod m2 3)) else (z15, 9)) = _
  by_cases h4 : m2 = 4
  · rw [if_pos h4, if_pos h4, finU, if_neg (fun hh => hh.2 h4)]
    show (if 100 ≤ m1 then (z15, 9) else _) = _
    by_cases hk : 99 < m1
    · rw [if_pos (show 100 ≤ m1 by omega), if_pos hk]
    · rw [if_neg (show ¬ 100 ≤ m1 by omega), if_neg hk]; rfl
  · rw [if_neg h4, if_neg h4]
    by_cases h0 : m11 = 0
    · rw [if_pos h0, finU, if_neg (by omega)]
      show (if 100 ≤ m1 then (z15, 9) else _) = _
      by_cases hk : 99 < m1
      · rw [if_pos (show 100 ≤ m1 by omega), if_pos hk]
      · rw [if_neg (show ¬ 100 ≤ m1 by omega), if_neg hk]; rfl
    · rw [if_neg h0, finU, if_pos ⟨by omega, h4⟩]
set_option maxRecDepth 100000 in
set_option maxHeartbeats 4000000 in
theorem rget_no (A : Option Addr) (cap : Nat) (l : List SF) (w : World) (hr : Kd.C k40 w A l.length l) (hc : l.length ≤ cap) (hlen : l.length ≤ 9223372036854775806) (hG : isG 0 l = false) :
    Calls Try.prog 34 #[.slice A l.length cap] w fun e w' => e = .returned (.tuple #[.agg (intsA (fgetR l).1), .int .i64 (fgetR l).2]) ∧ Below w.heap.size w w' := by
  obtain ⟨R, hR⟩ : ∃ R, R = fgetR l := ⟨_, rfl⟩
  rw [← hR]
  have HFF := Aside0.mk hR
  obtain ⟨KI, hKI⟩ := refIs_ev l hlen
  have HKI : Aside0 (gatelineref17_Is.f KI l = some false) := ⟨by rw [← hG]; exact hKI KI (Nat.le_refl _)⟩
  have HR := Aside0.mk hr
  have HC := Aside0.mk hc
  have HLEN := Aside0.mk hlen
  clear hR hr hc hlen hKI
  go_enter Try.func34, Try.ntmps34
  go_upto_region 1 with (first | (fail))
  have g2 : Blk (w.alloc (.cells #[.int .i64 0, .int .i64 0, .int .i64 0, .int .i64 0, .int .i64 0, .int .i64 0, .int .i64 0, .int .i64 0, .int .i64 0, .int .i64 0, .int .i64 0, .int .i64 0, .int .i64 0, .int .i64 0, .int .i64 0] 46)) w.heap.size (intsA z15) 46 := Blk.new w #[.int .i64 0, .int .i64 0, .int .i64 0, .int .i64 0, .int .i64 0, .int .i64 0, .int .i64 0, .int .i64 0, .int .i64 0, .int .i64 0, .int .i64 0, .int .i64 0, .int .i64 0, .int .i64 0, .int .i64 0] 46
  have gb := below_alloc (Below.refl w.heap.size w) (.cells #[.int .i64 0, .int .i64 0, .int .i64 0, .int .i64 0, .int .i64 0, .int .i64 0, .int .i64 0, .int .i64 0, .int .i64 0, .int .i64 0, .int .i64 0, .int .i64 0, .int .i64 0, .int .i64 0, .int .i64 0] 46)
  obtain ⟨n2, hn2⟩ : ∃ n, n = w.heap.size := ⟨_, rfl⟩
  have HN0 := Aside0.mk hn2
  generalize w.alloc (.cells #[.int .i64 0, .int .i64 0, .int .i64 0, .int .i64 0, .int .i64 0, .int .i64 0, .int .i64 0, .int .i64 0, .int .i64 0, .int .i64 0, .int .i64 0, .int .i64 0, .int .i64 0, .int .i64 0, .int .i64 0] 46) = U0 at *
  rw [← hn2] at g2 gb
  try rw [← hn2]
  clear hn2
  have G2 := Aside0.mk g2
  have GB := Aside0.mk gb
  clear g2 gb
  go_wp2_with (first
    | (go_at_call 20; refine (gatelineref17_Is.calls KI A cap l false _ (Kd.C_below HR.out (by rw [← HN0.out]; exact GB.out)) HC.out HKI.out).mono ?_; rintro e w1 ⟨rfl, nd, rfl⟩; have K2 := Aside0.mk (G2.out.drewN nd); have KB := Aside0.mk (pw_below_drewN GB.out nd); clear G2 GB; generalize U0.drewN nd = w1 at *)
    | (refine wpList_build_as rfl 46 _ rfl (intsA z15) (by as_aux_lemma => kernel_rfl) ?_)
    | (refine wpList_store_blk rfl 46 (.tmp 2) (.tmp 12) rfl n2 (intsA z15) rfl rfl 46 _ K2.out (by kernel_rfl) (by kernel_rfl) (by kernel_rfl) ?_; intro w9 hv hg; have gb := Aside0.mk (below_grown KB.out hg (Nat.le_refl _) (Nat.le_of_lt K2.out.lt)); have gv := Aside0.mk hv; clear hv hg))
  refine bodyPost_ret (v := .tuple #[.agg (intsA z15), .int .i64 1]) (results_row_tmp (fn := Try.f34) (p := 2) (u := 3) (by rfl) _ _ n2 46 _ _ (by rfl) gv.out Try.underlying46 rfl (by kernel_rfl)) rfl ⟨by rw [HFF.out, fgetR, hG]; rfl, by rw [← HN0.out]; exact gb.out⟩
set_option maxRecDepth 100000 in
set_option maxHeartbeats 8000000 in
theorem rget_yes (A : Option Addr) (cap : Nat) (l : List SF) (w : World) (hr : Kd.C k40 w A l.length l) (hc : l.length ≤ cap) (hlen : l.length ≤ 9223372036854775806) (hby : ∀ f ∈ l, IsBytes f.f1) (hG : isG 0 l = true) :
    Calls Try.prog 34 #[.slice A l.length cap] w fun e w' => e = .returned (.tuple #[.agg (intsA (fgetR l).1), .int .i64 (fgetR l).2]) ∧ Below w.heap.size w w' := by
  obtain ⟨R, hR⟩ : ∃ R, R = fgetR l := ⟨_, rfl⟩
  rw [← hR]
  have HRR : Aside0 (fgL l z15 1 = R) := ⟨by rw [hR, fgetR, if_pos hG]⟩
  obtain ⟨KI, hKI⟩ := refIs_ev l hlen
  have HKI : Aside0 (gatelineref17_Is.f KI l = some true) := ⟨by rw [← hG]; exact hKI KI (Nat.le_refl _)⟩
  have HR := Aside0.mk hr
  have HC := Aside0.mk hc
  have HLEN := Aside0.mk hlen
  clear hR hr hc hlen hKI
  go_enter Try.func34, Try.ntmps34
  go_upto_region 1 with (first | (fail))
  have g2 : Blk (w.alloc (.cells #[.int .i64 0, .int .i64 0, .int .i64 0, .int .i64 0, .int .i64 0, .int .i64 0, .int .i64 0, .int .i64 0, .int .i64 0, .int .i64 0, .int .i64 0, .int .i64 0, .int .i64 0, .int .i64 0, .int .i64 0] 46)) w.heap.size (intsA z15) 46 := Blk.new w #[.int .i64 0, .int .i64 0, .int .i64 0, .int .i64 0, .int .i64 0, .int .i64 0, .int .i64 0, .int .i64 0, .int .i64 0, .int .i64 0, .int .i64 0, .int .i64 0, .int .i64 0, .int .i64 0, .int .i64 0] 46
  have gb := below_alloc (Below.refl w.heap.size w) (.cells #[.int .i64 0, .int .i64 0, .int .i64 0, .int .i64 0, .int .i64 0, .int .i64 0, .int .i64 0, .int .i64 0, .int .i64 0, .int .i64 0, .int .i64 0, .int .i64 0, .int .i64 0, .int .i64 0, .int .i64 0] 46)
  obtain ⟨n2, hn2⟩ : ∃ n, n = w.heap.size := ⟨_, rfl⟩
  have HN0 := Aside0.mk hn2
  generalize w.alloc (.cells #[.int .i64 0, .int .i64 0, .int .i64 0, .int .i64 0, .int .i64 0, .int .i64 0, .int .i64 0, .int .i64 0, .int .i64 0, .int .i64 0, .int .i64 0, .int .i64 0, .int .i64 0, .int .i64 0, .int .i64 0] 46) = U0 at *
  rw [← hn2] at g2 gb
  try rw [← hn2]
  clear hn2
  have G2 := Aside0.mk g2
  have GB := Aside0.mk gb
  clear g2 gb
  have HBY := Aside0.mk hby
  have HGV := Aside0.mk (isG_values l 0 hG)
  clear hby hG
  go_upto_region 3 with (first
    | (go_at_call 20; refine (gatelineref17_Is.calls KI A cap l true _ (Kd.C_below HR.out (by rw [← HN0.out]; exact GB.out)) HC.out HKI.out).mono ?_; rintro e w1 ⟨rfl, nd, rfl⟩; have K2 := Aside0.mk (G2.out.drewN nd); have KB := Aside0.mk (pw_below_drewN GB.out nd); clear G2 GB; generalize U0.drewN nd = w1 at *))
  go_wp2
  have k4 : Blk (w1.alloc (.cells #[.int .i64 0, .int .i64 0, .int .i64 0, .int .i64 0, .int .i64 0, .int .i64 0, .int .i64 0, .int .i64 0, .int .i64 0, .int .i64 0, .int .i64 0, .int .i64 0, .int .i64 0] 3)) w1.heap.size (intsA (List.replicate 13 0)) 3 := Blk.new w1 #[.int .i64 0, .int .i64 0, .int .i64 0, .int .i64 0, .int .i64 0, .int .i64 0, .int .i64 0, .int .i64 0, .int .i64 0, .int .i64 0, .int .i64 0, .int .i64 0, .int .i64 0] 3
  have SB0 : RB n2 w1.heap.size (List.replicate 13 0) w (w1.alloc (.cells #[.int .i64 0, .int .i64 0, .int .i64 0, .int .i64 0, .int .i64 0, .int .i64 0, .int .i64 0, .int .i64 0, .int .i64 0, .int .i64 0, .int .i64 0, .int .i64 0, .int .i64 0] 3)) := ⟨K2.out.alloc _, k4, KB.out.alloc (Nat.le_of_lt K2.out.lt) _, K2.out.lt⟩
  obtain ⟨n4, hn4⟩ : ∃ n, n = w1.heap.size := ⟨_, rfl⟩
  generalize w1.alloc (.cells #[.int .i64 0, .int .i64 0, .int .i64 0, .int .i64 0, .int .i64 0, .int .i64 0, .int .i64 0, .int .i64 0, .int .i64 0, .int .i64 0, .int .i64 0, .int .i64 0, .int .i64 0] 3) = U1 at *
  rw [← hn4] at SB0
  try rw [← hn4]
  clear hn4 K2 KB k4
  have SB1 := Aside0.mk SB0
  clear SB0
  go_loopw [5] (fun v5 wr => ∃ (x : Int) (m : List Int), v5 = .int .i64 x ∧ 0 ≤ x ∧ Aside0 (x ≤ l.length) ∧ Aside0 (m.length = 13) ∧ Aside0 (∀ y ∈ m, 0 ≤ y) ∧ Aside0 (fgL (l.drop x.toNat) (cM m) (leastM m) = R) ∧ Aside0 (RB n2 n4 m w wr)) (fun v5 _ => l.length - (intOf v5).toNat)
  case atStart => exact ⟨0, List.replicate 13 0, rfl, Int.le_refl _, ⟨by omega⟩, ⟨by decide⟩, ⟨fun y hy => by rw [(List.mem_replicate.1 hy).2]; exact Int.le_refl _⟩, ⟨by have h := HRR.out; exact h⟩, SB1⟩
  case round =>
    clear SB1
    obtain ⟨x, m, rfl, hx0, HI, HML, HPOS, HF, SB⟩ := hrel
    by_cases hx1 : x < l.length
    · obtain ⟨ad, A1, c1, eA, q0, q1, hl1, hC1⟩ := at_T40 HR.out x hx0 hx1
      have hfl : l.drop x.toNat = rd_T40 l x :: l.drop (x.toNat + 1) := by
        rw [List.drop_eq_getElem_cons (show x.toNat < l.length by omega)]
        simp [rd_T40, List.getD_eq_getElem?_getD, show x.toNat < l.length by omega]
      have hfm : rd_T40 l x ∈ l := by
        have : x.toNat < l.length := by omega
        simp only [rd_T40, List.getD_eq_getElem?_getD, List.getElem?_eq_getElem this, Option.getD_some]
        exact List.getElem_mem _
      have hF := HF.out
      rw [hfl] at hF
      generalize rd_T40 l x = f at *
      have hbf := HBY.out f hfm
      have hgf := HGV.out f hfm
      have u1 : 1 ≤ f.f0 := by omega
      subst eA
      have b0 : wr.cell? (ad.add (x.toNat * 2)) = some (.int .i64 f.f0) := (SB.out.hb.cell (by rw [HN0.out]; exact World.block_lt_of_cell? w _ q0)).trans q0
      have b1 : wr.cell? ⟨(ad.add (x.toNat * 2)).block, (ad.add (x.toNat * 2)).off + 1, none⟩ = some (.slice A1 f.f1.length c1) := (SB.out.hb.cell (by rw [HN0.out]; exact World.block_lt_of_cell? w _ q1)).trans q1
      have HL1 := Aside0.mk hl1
      have HC1 := Aside0.mk hC1
      have hxw : x ≤ 9223372036854775805 := by have := HLEN.out; omega
      rw [fgL] at hF
      clear q0 q1 hl1 hC1 hfm hfl HF hgf
      by_cases t1 : 128 ≤ f.f0
      · rw [if_pos t1] at hF
        have HFF := Aside0.mk hF
        clear hF
        go_wp2_with (first
          | (refine wpList_build_as rfl 46 _ rfl (intsA z15) (by as_aux_lemma => kernel_rfl) ?_)
          | (refine wpList_store_blk rfl 46 (.tmp 2) (.tmp 26) rfl n2 (intsA z15) rfl rfl 46 _ SB.out.h2 (by kernel_rfl) (by kernel_rfl) (by kernel_rfl) ?_; intro w9 hv hg; have gb := Aside0.mk (below_grown SB.out.hb hg (Nat.le_refl _) (Nat.le_of_lt SB.out.h2.lt)); have gv := Aside0.mk hv; clear hv hg))
        refine bodyPost_ret (v := .tuple #[.agg (intsA z15), .int .i64 16]) (results_row_tmp (fn := Try.f34) (p := 2) (u := 3) (by rfl) _ _ n2 46 _ _ (by rfl) gv.out Try.underlying46 rfl (by kernel_rfl)) rfl ⟨by rw [← HFF.out], by rw [← HN0.out]; exact gb.out⟩
      · rw [if_neg t1] at hF
        by_cases t2 : 13 < f.f0
        · rw [if_pos (Or.inr t2)] at hF
          have HFF := Aside0.mk hF
          clear hF
          go_wp2_with (first
            | (refine wpList_build_as rfl 46 _ rfl (intsA z15) (by as_aux_lemma => kernel_rfl) ?_)
            | (refine wpList_store_blk rfl 46 (.tmp 2) (.tmp 33) rfl n2 (intsA z15) rfl rfl 46 _ SB.out.h2 (by kernel_rfl) (by kernel_rfl) (by kernel_rfl) ?_; intro w9 hv hg; have gb := Aside0.mk (below_grown SB.out.hb hg (Nat.le_refl _) (Nat.le_of_lt SB.out.h2.lt)); have gv := Aside0.mk hv; clear hv hg))
          refine bodyPost_ret (v := .tuple #[.agg (intsA z15), .int .i64 15]) (results_row_tmp (fn := Try.f34) (p := 2) (u := 3) (by rfl) _ _ n2 46 _ _ (by rfl) gv.out Try.underlying46 rfl (by kernel_rfl)) rfl ⟨by rw [← HFF.out], by rw [← HN0.out]; exact gb.out⟩
        · rw [if_neg (by omega)] at hF
          have u2 : f.f0 ≤ 13 := by omega
          obtain ⟨KV, hKV⟩ := refValue_ev f.f1 hbf
          have HV : Aside0 (gatelineref17_Value.f KV f.f1 = some ((valR f.f1).1, (valR f.f1).2)) := ⟨hKV KV (Nat.le_refl _)⟩
          have HPV : Aside0 ((valR f.f1).2 = 0 → 0 < (valR f.f1).1) := ⟨fun h => (num_val f.f1 hbf h).1⟩
          generalize (valR f.f1).1 = vn at *
          by_cases t3 : (valR f.f1).2 = 0
          · rw [if_pos t3] at hF
            rw [t3] at HV
            have hvn := HPV.out t3
            have HFF : Aside0 (fgL (l.drop (x.toNat + 1)) (cM (m.set (f.f0.toNat - 1) vn)) (leastM (m.set (f.f0.toNat - 1) vn)) = R) := ⟨by rw [cM_set m HML.out _ _ u1 u2, leastM_set m HML.out _ _ u1 u2 hvn]; exact hF⟩
            have HVN := Aside0.mk hvn
            have hil : (f.f0.toNat - 1) < 13 := by omega
            have hst := SB.out.h4.cell (f.f0.toNat - 1) _ (intsA_at m _ (by rw [HML.out]; exact hil))
            have hfz := SB.out.h4.frozen (f.f0.toNat - 1)
            have hw : wrap64 (f.f0 - 1) = f.f0 - 1 := Pure.w64 (by omega) (by omega)
            have i0 : 0 ≤ f.f0 - 1 := by omega
            have i1 : f.f0 - 1 < 13 := by omega
            clear hF hKV t3 hvn
            go_wp2_with (first
              | (go_at_call 27; refine (gatelineref17_Value.calls KV A1 c1 f.f1 _ _ _ (Kd.C_below HC1.out (by rw [← HN0.out]; exact SB.out.hb)) HL1.out HV.out).mono ?_; rintro e w7 ⟨rfl, nd, rfl⟩; have SC := Aside0.mk (SB.out.drewN nd); have b0' : (wr.drewN nd).cell? (ad.add (x.toNat * 2)) = some (.int .i64 f.f0) := b0; have hst' : (wr.drewN nd).cell? ⟨n4, f.f0.toNat - 1, none⟩ = _ := hst; have hfz' : (wr.drewN nd).frozen? ⟨n4, f.f0.toNat - 1, none⟩ = false := hfz; clear b0 b1 hst hfz SB; generalize wr.drewN nd = w7 at *))
            go_roundw
            case measure => have := HLEN.out; simp [intOf]; omega
            case rel =>
              refine ⟨x + 1, m.set (f.f0.toNat - 1) vn, by simp, by omega, ⟨by omega⟩, ⟨by rw [List.length_set]; exact HML.out⟩, ⟨fun y hy => ?_⟩, ⟨by rw [show (x + 1).toNat = x.toNat + 1 by omega]; exact HFF.out⟩, ⟨SC.out.h2.grown (put_grownI _ n4 _ _) (by have := SC.out.lt; omega), SC.out.h4.put _ _ (intsA_set m _ _), below_grown SC.out.hb (put_grownI _ n4 _ _) (by have := SC.out.lt; omega) (Nat.le_of_lt SC.out.h2.lt), SC.out.lt⟩⟩
              rcases List.mem_or_eq_of_mem_set hy with h | h
              · exact HPOS.out y h
              · rw [h]; have := HVN.out; omega
          · rw [if_neg t3] at hF
            have HFF := Aside0.mk hF
            obtain ⟨ev, hev⟩ : ∃ ev, ev = (valR f.f1).2 := ⟨_, rfl⟩
            rw [← hev] at t3 HV HFF
            clear hF hKV hev HPV
            go_wp2_with (first
              | (go_at_call 27; refine (gatelineref17_Value.calls KV A1 c1 f.f1 _ _ _ (Kd.C_below HC1.out (by rw [← HN0.out]; exact SB.out.hb)) HL1.out HV.out).mono ?_; rintro e w7 ⟨rfl, nd, rfl⟩; have SC := Aside0.mk (SB.out.drewN nd); clear b0 b1 SB; generalize wr.drewN nd = w7 at *)
              | (refine wpList_build_as rfl 46 _ rfl (intsA z15) (by as_aux_lemma => kernel_rfl) ?_)
              | (refine wpList_store_blk rfl 46 (.tmp 2) (.tmp 45) rfl n2 (intsA z15) rfl rfl 46 _ SC.out.h2 (by kernel_rfl) (by kernel_rfl) (by kernel_rfl) ?_; intro w9 hv hg; have gb := Aside0.mk (below_grown SC.out.hb hg (Nat.le_refl _) (Nat.le_of_lt SC.out.h2.lt)); have gv := Aside0.mk hv; clear hv hg))
            refine bodyPost_ret (v := .tuple #[.agg (intsA z15), .int .i64 ev]) (results_row_tmp (fn := Try.f34) (p := 2) (u := 3) (by rfl) _ _ n2 46 _ _ (by rfl) gv.out Try.underlying46 rfl (by kernel_rfl)) rfl ⟨by rw [← HFF.out], by rw [← HN0.out]; exact gb.out⟩
    · have hF := HF.out
      rw [List.drop_eq_nil_of_le (show l.length ≤ x.toNat by omega)] at hF
      obtain ⟨m0, m1, m2, m3, m4, m5, m6, m7, m8, m9, m10, m11, m12, rfl⟩ := list13 HML.out
      have r0 : wr.cell? ⟨n4, 0, none⟩ = some (.int .i64 m0) := SB.out.h4.cell 0 _ rfl
      have r7 : wr.cell? ⟨n4, 7, none⟩ = some (.int .i64 m7) := SB.out.h4.cell 7 _ rfl
      have r8 : wr.cell? ⟨n4, 8, none⟩ = some (.int .i64 m8) := SB.out.h4.cell 8 _ rfl
      clear HF
      by_cases a1 : m0 < 1
      · change finR _ _ = R at hF
        rw [finR_12 [m0, m1, m2, m3, m4, m5, m6, m7, m8, m9, m10, m11, m12] (low_err m0 m1 m2 m3 m4 m5 m6 m7 m8 m9 m10 m11 m12 (by omega))] at hF
        have HFF := Aside0.mk hF
        clear hF
        go_wp2_with (first
          | (refine wpList_build_as rfl 46 _ rfl (intsA z15) (by as_aux_lemma => kernel_rfl) ?_)
          | (refine wpList_store_blk rfl 46 (.tmp 2) (.tmp 90) rfl n2 (intsA z15) rfl rfl 46 _ SB.out.h2 (by kernel_rfl) (by kernel_rfl) (by kernel_rfl) ?_; intro w9 hv hg; have gb := Aside0.mk (below_grown SB.out.hb hg (Nat.le_refl _) (Nat.le_of_lt SB.out.h2.lt)); have gv := Aside0.mk hv; clear hv hg))
        refine bodyPost_ret (v := .tuple #[.agg (intsA z15), .int .i64 12]) (results_row_tmp (fn := Try.f34) (p := 2) (u := 3) (by rfl) _ _ n2 46 _ _ (by rfl) gv.out Try.underlying46 rfl (by kernel_rfl)) rfl ⟨by rw [← HFF.out], by rw [← HN0.out]; exact gb.out⟩
      · by_cases a2 : 3 < m0
        · change finR _ _ = R at hF
          rw [finR_12 [m0, m1, m2, m3, m4, m5, m6, m7, m8, m9, m10, m11, m12] (low_err m0 m1 m2 m3 m4 m5 m6 m7 m8 m9 m10 m11 m12 (by omega))] at hF
          have HFF := Aside0.mk hF
          clear hF
          go_wp2_with (first
            | (refine wpList_build_as rfl 46 _ rfl (intsA z15) (by as_aux_lemma => kernel_rfl) ?_)
            | (refine wpList_store_blk rfl 46 (.tmp 2) (.tmp 90) rfl n2 (intsA z15) rfl rfl 46 _ SB.out.h2 (by kernel_rfl) (by kernel_rfl) (by kernel_rfl) ?_; intro w9 hv hg; have gb := Aside0.mk (below_grown SB.out.hb hg (Nat.le_refl _) (Nat.le_of_lt SB.out.h2.lt)); have gv := Aside0.mk hv; clear hv hg))
          refine bodyPost_ret (v := .tuple #[.agg (intsA z15), .int .i64 12]) (results_row_tmp (fn := Try.f34) (p := 2) (u := 3) (by rfl) _ _ n2 46 _ _ (by rfl) gv.out Try.underlying46 rfl (by kernel_rfl)) rfl ⟨by rw [← HFF.out], by rw [← HN0.out]; exact gb.out⟩
        · by_cases a3 : m0 < 2
          · by_cases a4 : 0 < m7
            · change finR _ _ = R at hF
              rw [finR_12 [m0, m1, m2, m3, m4, m5, m6, m7, m8, m9, m10, m11, m12] (low_err m0 m1 m2 m3 m4 m5 m6 m7 m8 m9 m10 m11 m12 (by omega))] at hF
              have HFF := Aside0.mk hF
              clear hF
              go_wp2_with (first
                | (refine wpList_build_as rfl 46 _ rfl (intsA z15) (by as_aux_lemma => kernel_rfl) ?_)
                | (refine wpList_store_blk rfl 46 (.tmp 2) (.tmp 90) rfl n2 (intsA z15) rfl rfl 46 _ SB.out.h2 (by kernel_rfl) (by kernel_rfl) (by kernel_rfl) ?_; intro w9 hv hg; have gb := Aside0.mk (below_grown SB.out.hb hg (Nat.le_refl _) (Nat.le_of_lt SB.out.h2.lt)); have gv := Aside0.mk hv; clear hv hg))
              refine bodyPost_ret (v := .tuple #[.agg (intsA z15), .int .i64 12]) (results_row_tmp (fn := Try.f34) (p := 2) (u := 3) (by rfl) _ _ n2 46 _ _ (by rfl) gv.out Try.underlying46 rfl (by kernel_rfl)) rfl ⟨by rw [← HFF.out], by rw [← HN0.out]; exact gb.out⟩
            · have a5 : m0 < 3 := by omega
              by_cases a6 : 0 < m8
              · change finR _ _ = R at hF
                rw [finR_12 [m0, m1, m2, m3, m4, m5, m6, m7, m8, m9, m10, m11, m12] (low_err m0 m1 m2 m3 m4 m5 m6 m7 m8 m9 m10 m11 m12 (by omega))] at hF
                have HFF := Aside0.mk hF
                clear hF
                go_wp2_with (first
                  | (refine wpList_build_as rfl 46 _ rfl (intsA z15) (by as_aux_lemma => kernel_rfl) ?_)
                  | (refine wpList_store_blk rfl 46 (.tmp 2) (.tmp 90) rfl n2 (intsA z15) rfl rfl 46 _ SB.out.h2 (by kernel_rfl) (by kernel_rfl) (by kernel_rfl) ?_; intro w9 hv hg; have gb := Aside0.mk (below_grown SB.out.hb hg (Nat.le_refl _) (Nat.le_of_lt SB.out.h2.lt)); have gv := Aside0.mk hv; clear hv hg))
                refine bodyPost_ret (v := .tuple #[.agg (intsA z15), .int .i64 12]) (results_row_tmp (fn := Try.f34) (p := 2) (u := 3) (by rfl) _ _ n2 46 _ _ (by rfl) gv.out Try.underlying46 rfl (by kernel_rfl)) rfl ⟨by rw [← HFF.out], by rw [← HN0.out]; exact gb.out⟩
              · change finR _ _ = R at hF
                have hlo := low_ok m0 m1 m2 m3 m4 m5 m6 m7 m8 m9 m10 m11 m12 (by omega)
                rw [finR_ok m0 m1 m2 m3 m4 m5 m6 m7 m8 m9 m10 m11 m12 hlo.1 hlo.2 (HPOS.out m11 (by simp))] at hF
                have HFF := Aside0.mk hF
                clear hF hlo
                go_upto_region 17 with (first | fail)
                have hn2 := HN0.out
                subst hn2
                exact rg_17 _ _ rfl rfl w _ _ n4 m0 m1 m2 m3 m4 m5 m6 m7 m8 m9 m10 m11 m12 R HFF.out SB.out _ (by assumption) _ _ _ _ _ _ _ _ _ _ _ _ _ _ _ _ _ _ _ _ _ _ _ _ _ _ _ _ _ _ _ _ _ _ _ _ _ _ _ _ _ _ _ _ _ _ _ _ _ _ _ _ _ _ _ _ _ _ _ _ _ _ _ _ _ _ _ _ _ _ _ _ _ _ _ _ _ _ _ _ _ _ _ _ _ _ _ _ _ _ _ _ _ _ _ _ _ _ _ _ _ _ _ _ _ _ _ _ _ _ _ _ _ _ _ _ _ _ _ _ _ _ _ _ _ _ _ _ _ _ _ _ _ _ _ _ _ _ _ _ _ _ _ _ _ _ _ _ _ _ _ _ _ _ _ _ _ _ _
          · by_cases a5 : m0 < 3
            · by_cases a6 : 0 < m8
              · change finR _ _ = R at hF
                rw [finR_12 [m0, m1, m2, m3, m4, m5, m6, m7, m8, m9, m10, m11, m12] (low_err m0 m1 m2 m3 m4 m5 m6 m7 m8 m9 m10 m11 m12 (by omega))] at hF
                have HFF := Aside0.mk hF
                clear hF
                go_wp2_with (first
                  | (refine wpList_build_as rfl 46 _ rfl (intsA z15) (by as_aux_lemma => kernel_rfl) ?_)
                  | (refine wpList_store_blk rfl 46 (.tmp 2) (.tmp 90) rfl n2 (intsA z15) rfl rfl 46 _ SB.out.h2 (by kernel_rfl) (by kernel_rfl) (by kernel_rfl) ?_; intro w9 hv hg; have gb := Aside0.mk (below_grown SB.out.hb hg (Nat.le_refl _) (Nat.le_of_lt SB.out.h2.lt)); have gv := Aside0.mk hv; clear hv hg))
                refine bodyPost_ret (v := .tuple #[.agg (intsA z15), .int .i64 12]) (results_row_tmp (fn := Try.f34) (p := 2) (u := 3) (by rfl) _ _ n2 46 _ _ (by rfl) gv.out Try.underlying46 rfl (by kernel_rfl)) rfl ⟨by rw [← HFF.out], by rw [← HN0.out]; exact gb.out⟩
              · change finR _ _ = R at hF
                have hlo := low_ok m0 m1 m2 m3 m4 m5 m6 m7 m8 m9 m10 m11 m12 (by omega)
                rw [finR_ok m0 m1 m2 m3 m4 m5 m6 m7 m8 m9 m10 m11 m12 hlo.1 hlo.2 (HPOS.out m11 (by simp))] at hF
                have HFF := Aside0.mk hF
                clear hF hlo
                go_upto_region 17 with (first | fail)
                have hn2 := HN0.out
                subst hn2
                exact rg_17 _ _ rfl rfl w _ _ n4 m0 m1 m2 m3 m4 m5 m6 m7 m8 m9 m10 m11 m12 R HFF.out SB.out _ (by assumption) _ _ _ _ _ _ _ _ _ _ _ _ _ _ _ _ _ _ _ _ _ _ _ _ _ _ _ _ _ _ _ _ _ _ _ _ _ _ _ _ _ _ _ _ _ _ _ _ _ _ _ _ _ _ _ _ _ _ _ _ _ _ _ _ _ _ _ _ _ _ _ _ _ _ _ _ _ _ _ _ _ _ _ _ _ _ _ _ _ _ _ _ _ _ _ _ _ _ _ _ _ _ _ _ _ _ _ _ _ _ _ _ _ _ _ _ _ _ _ _ _ _ _ _ _ _ _ _ _ _ _ _ _ _ _ _ _ _ _ _ _ _ _ _ _ _ _ _ _ _ _ _ _ _ _ _ _ _ _
            · change finR _ _ = R at hF
              have hlo := low_ok m0 m1 m2 m3 m4 m5 m6 m7 m8 m9 m10 m11 m12 (by omega)
              rw [finR_ok m0 m1 m2 m3 m4 m5 m6 m7 m8 m9 m10 m11 m12 hlo.1 hlo.2 (HPOS.out m11 (by simp))] at hF
              have HFF := Aside0.mk hF
              clear hF hlo
              go_upto_region 17 with (first | fail)
              have hn2 := HN0.out
              subst hn2
              exact rg_17 _ _ rfl rfl w _ _ n4 m0 m1 m2 m3 m4 m5 m6 m7 m8 m9 m10 m11 m12 R HFF.out SB.out _ (by assumption) _ _ _ _ _ _ _ _ _ _ _ _ _ _ _ _ _ _ _ _ _ _ _ _ _ _ _ _ _ _ _ _ _ _ _ _ _ _ _ _ _ _ _ _ _ _ _ _ _ _ _ _ _ _ _ _ _ _ _ _ _ _ _ _ _ _ _ _ _ _ _ _ _ _ _ _ _ _ _ _ _ _ _ _ _ _ _ _ _ _ _ _ _ _ _ _ _ _ _ _ _ _ _ _ _ _ _ _ _ _ _ _ _ _ _ _ _ _ _ _ _ _ _ _ _ _ _ _ _ _ _ _ _ _ _ _ _ _ _ _ _ _ _ _ _ _ _ _ _ _ _ _ _ _ _ _ _ _ _
theorem rget_any (A : Option Addr) (cap : Nat) (l : List SF) (w : World) (hr : Kd.C k40 w A l.length l) (hc : l.length ≤ cap) (hby : ∀ f ∈ l, IsBytes f.f1) (hlen : l.length ≤ 9223372036854775806) :
    Calls Try.prog 34 #[.slice A l.length cap] w fun e w' => e = .returned (.tuple #[.agg (intsA (fgetR l).1), .int .i64 (fgetR l).2]) ∧ Below w.heap.size w w' := by
  cases hG : isG 0 l
  · exact rget_no A cap l w hr hc hlen hG
  · exact rget_yes A cap l w hr hc hlen hby hG
def rget18F (l : List SF) := fgetF l
theorem rget18_calls (A0 : Option Addr) (c0 : Nat) (l0 : List SF) (r1 : Int) (r2 : Int) (r3 : Int) (r4 : Int) (r5 : Int) (r6 : Int) (r7 : Int) (r8 : Int) (r9 : Int) (r10 : Int) (r11 : Int) (r12 : Int) (r13 : Int) (r14 : Int) (r15 : Int) (r16 : Int) (w : World) (hr0 : Kd.C k40 w A0 l0.length l0) (hc0 : l0.length ≤ c0) (h : rget18F l0 = some (r1, r2, r3, r4, r5, r6, r7, r8, r9, r10, r11, r12, r13, r14, r15, r16)) :
    Calls Try.prog 34 #[.slice A0 l0.length c0] w fun e w' => e = .returned (.tuple #[.agg #[.int .i64 r1, .int .i64 r2, .int .i64 r3, .int .i64 r4, .int .i64 r5, .int .i64 r6, .int .i64 r7, .int .i64 r8, .int .i64 r9, .int .i64 r10, .int .i64 r11, .int .i64 r12, .int .i64 r13, .int .i64 r14, .int .i64 r15], .int .i64 r16]) ∧ Below w.heap.size w w' := by
  unfold rget18F fgetF at h
  by_cases hok : okF l0 = true ∧ l0.length ≤ 9223372036854775806
  · rw [if_pos hok] at h
    have hc := rget_any A0 c0 l0 w hr0 hc0 (okF_bytes hok.1) hok.2
    obtain ⟨v0, v1, v2, v3, v4, v5, v6, v7, v8, v9, v10, v11, v12, v13, v14, hv⟩ := list15 (fgetR_len l0)
    generalize fgetR l0 = R at *
    obtain ⟨c, e⟩ := R
    replace hv : c = [v0, v1, v2, v3, v4, v5, v6, v7, v8, v9, v10, v11, v12, v13, v14] := hv
    subst hv
    replace h : (v0, v1, v2, v3, v4, v5, v6, v7, v8, v9, v10, v11, v12, v13, v14, e) = (r1, r2, r3, r4, r5, r6, r7, r8, r9, r10, r11, r12, r13, r14, r15, r16) := Option.some.inj h
    simp only [Prod.mk.injEq] at h
    obtain ⟨rfl, rfl, rfl, rfl, rfl, rfl, rfl, rfl, rfl, rfl, rfl, rfl, rfl, rfl, rfl, rfl⟩ := h
    exact hc
  · rw [if_neg hok] at h
    exact absurd h (by simp)
end Go.Proofs.Ytekgienbhpknlaa.G
end
section
namespace Go.Proofs.Ytekgienbhpknlaa.PL
open Go.RowKit Go.Proofs.YtekgienbhpknlaaW.PrintWords Go.Proofs.YtekgienbhpknlaaW.PrintLast Go.Proofs.YtekgienbhpknlaaW.PrintMore
attribute [local go_sem] max2_int min2_int max_two min_two max_three min_three max_four min_four   -- for this text's walks alone
set_option linter.unusedVariables false
set_option linter.unusedSimpArgs false
attribute [local go_sem high] eqA46

/-! ### fields_Get: function 33 (a contract proved by hand) -/
def fields_Get.f (l0 : List (S40)) : Option (Int × Int × Int × Int × Int × Int × Int × Int × Int × Int × Int × Int × Int × Int × Int × Int) := G.fgetF l0
theorem fields_Get.calls (A0 : Option Addr) (c0 : Nat) (l0 : List (S40)) (r1 : Int) (r2 : Int) (r3 : Int) (r4 : Int) (r5 : Int) (r6 : Int) (r7 : Int) (r8 : Int) (r9 : Int) (r10 : Int) (r11 : Int) (r12 : Int) (r13 : Int) (r14 : Int) (r15 : Int) (r16 : Int) (w : World) (hr0 : Kd.C k40 w A0 l0.length l0) (hc0 : l0.length ≤ c0) (h : fields_Get.f l0 = some (r1, r2, r3, r4, r5, r6, r7, r8, r9, r10, r11, r12, r13, r14, r15, r16)) :
    Calls Try.prog 33 #[.slice A0 l0.length c0] w fun e w' => e = .returned (.tuple #[.agg #[.int .i64 r1, .int .i64 r2, .int .i64 r3, .int .i64 r4, .int .i64 r5, .int .i64 r6, .int .i64 r7, .int .i64 r8, .int .i64 r9, .int .i64 r10, .int .i64 r11, .int .i64 r12, .int .i64 r13, .int .i64 r14, .int .i64 r15], .int .i64 r16]) ∧ Below w.heap.size w w' := G.fget_calls A0 c0 l0 r1 r2 r3 r4 r5 r6 r7 r8 r9 r10 r11 r12 r13 r14 r15 r16 w hr0 hc0 h

end Go.Proofs.Ytekgienbhpknlaa.PL
end
section
namespace Go.Proofs.Ytekgienbhpknlaa.PL
open Go.RowKit Go.Proofs.YtekgienbhpknlaaW.PrintWords Go.Proofs.YtekgienbhpknlaaW.PrintLast Go.Proofs.YtekgienbhpknlaaW.PrintMore
attribute [local go_sem] max2_int min2_int max_two min_two max_three min_three max_four min_four   -- for this text's walks alone
set_option linter.unusedVariables false
set_option linter.unusedSimpArgs false
attribute [local go_sem high] eqA46

/-! ### gatelineref18_Get: function 34 (a contract proved by hand) -/
def gatelineref18_Get.f (l0 : List (S40)) : Option (Int × Int × Int × Int × Int × Int × Int × Int × Int × Int × Int × Int × Int × Int × Int × Int) := G.rget18F l0
theorem gatelineref18_Get.calls (A0 : Option Addr) (c0 : Nat) (l0 : List (S40)) (r1 : Int) (r2 : Int) (r3 : Int) (r4 : Int) (r5 : Int) (r6 : Int) (r7 : Int) (r8 : Int) (r9 : Int) (r10 : Int) (r11 : Int) (r12 : Int) (r13 : Int) (r14 : Int) (r15 : Int) (r16 : Int) (w : World) (hr0 : Kd.C k40 w A0 l0.length l0) (hc0 : l0.length ≤ c0) (h : gatelineref18_Get.f l0 = some (r1, r2, r3, r4, r5, r6, r7, r8, r9, r10, r11, r12, r13, r14, r15, r16)) :
    Calls Try.prog 34 #[.slice A0 l0.length c0] w fun e w' => e = .returned (.tuple #[.agg #[.int .i64 r1, .int .i64 r2, .int .i64 r3, .int .i64 r4, .int .i64 r5, .int .i64 r6, .int .i64 r7, .int .i64 r8, .int .i64 r9, .int .i64 r10, .int .i64 r11, .int .i64 r12, .int .i64 r13, .int .i64 r14, .int .i64 r15], .int .i64 r16]) ∧ Below w.heap.size w w' := G.rget18_calls A0 c0 l0 r1 r2 r3 r4 r5 r6 r7 r8 r9 r10 r11 r12 r13 r14 r15 r16 w hr0 hc0 h

end Go.Proofs.Ytekgienbhpknlaa.PL
end
