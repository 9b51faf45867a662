/- The walk of sha.Sum. -/
import Derived.Test.YtbakfengmehkkaaGRefBlock
import Derived.Test.YtbakfengmehkkaaQPad
import Derived.Test.YtbakfengmehkkaaQBitsRefC
import Derived.Deep.MidRow
namespace Go.Proofs.Ytbakfengmehkkaa.G
open Go Go.RowKit Go.Proofs.Ytbakfengmehkkaa.PL Go.Proofs.Ytbakfengmehkkaa.Q Go.Proofs.YtbakfengmehkkaaW.PrintWords Go.Proofs.YtbakfengmehkkaaW.PrintLast Go.Proofs.YtbakfengmehkkaaW.PrintMore
def beginL : List Int := [0x6a09e667, 0xbb67ae85, 0x3c6ef372, 0xa54ff53a, 0x510e527f, 0x9b05688c, 0x1f83d9ab, 0x5be0cd19]
/-- The words behind k blocks. -/
def sumL : Nat → List Int → List Int → List Int
  | 0, h, _ => h
  | k + 1, h, xs => sumL k (blockR h (wordsOf (xs.take 64))) (xs.drop 64)
/-- The digest. -/
def sumR (b : List Int) : List Int := bytesOfW (sumL ((padR b).length / 64) beginL (padR b))
theorem sumL_len : ∀ (k : Nat) (h xs : List Int), h.length = 8 → (sumL k h xs).length = 8
  | 0, _, _, hh => hh
  | k + 1, h, _, hh => sumL_len k _ _ (block_len h _ hh)
theorem sumL_words : ∀ (k : Nat) (h xs : List Int), IsWords h → IsWords (sumL k h xs)
  | 0, _, _, hh => hh
  | k + 1, h, _, hh => sumL_words k _ _ (block_words h _ hh)
theorem sumR_len (b : List Int) : (sumR b).length = 32 := by rw [sumR, bytesOfW_length, sumL_len _ _ _ rfl]
theorem sumR_isBytes (b : List Int) : IsBytes (sumR b) := bytesOfW_isBytes _
section
variable {P : Program}
theorem wpList_s2ap {ops : Array Oper} {rest : List Oper} {o : Oper} {a : Act} {w : World} {Q : Exit → Act → World → Prop} (hgd : o.guard = none) (ty : TypeId) (x : Operand) (ho : o.op = .sliceToArrayPointer ty x)
    (A : Option Addr) (len cap n : Nat) (e : TypeId) (hx : a.eval x = .slice A len cap) (hu : P.underlying ty = some (.array n e)) (hn : n ≤ len)
    (h : wpList P ops Q rest (a.put o.dst (.pointer A)) w) : wpList P ops Q (o :: rest) a w :=
  wpList_plain hgd fun _ hK => by
    unfold Oper.wp execOp
    have hn' : ¬ len < n := by omega
    simp only [ho, hx, Instr.arrayAt, Sem.run_bind, run_underlying hu, Result.andThen_ok, hn', if_false, Sem.run_pure]
    exact hK _ _ h
theorem run_arrayAt (ty : TypeId) (A : Option Addr) (len cap n : Nat) (e : TypeId) (hu : P.underlying ty = some (.array n e)) (hn : n ≤ len) : ∀ W : World, (Instr.arrayAt ty (.slice A len cap)).run P W = .ok (.pointer A) W := fun W => by
  have hn' : ¬ len < n := by omega
  simp only [Instr.arrayAt, Sem.run_bind, run_underlying hu, Result.andThen_ok, hn', if_false, Sem.run_pure]
theorem wpList_load_range {ops : Array Oper} {rest : List Oper} {o : Oper} {a : Act} {w : World} {Q : Exit → Act → World → Prop} (hgd : o.guard = none) (ty : TypeId) (x : Operand) (ho : o.op = .load ty x)
    (b : Nat) (hx : a.eval x = .pointer (some ⟨b, 0, none⟩)) (cs : List Value) (n : Nat) (e : TypeId) (hc : ∀ j u, cs[j]? = some u → w.cell? ⟨b, j, none⟩ = some u)
    (hu : P.underlying ty = some (.array n e)) (hi : (P.info? ty).map (·.size) = some cs.length)
    (h : wpList P ops Q rest (a.put o.dst (.agg cs.toArray)) w) : wpList P ops Q (o :: rest) a w :=
  wpList_plain hgd fun _ hK => wp_load_mid ty x ho b 0 hx cs _ (fun j v hv => by rw [Nat.zero_add]; exact hc j v hv) hu rfl hi (hK _ _ h)
end
theorem C_of_blk {W : World} {b : Nat} {l : List Int} {t : TypeId} (h : Blk W b (wordsA l) t) (hl : l.length ≤ 1000000) : Kd.C (Kd.int .u32) W (some ⟨b, 0, none⟩) l.length l :=
  Kd.C_of_reads (d := (0 : Int)) (h1 := fun _ => rfl) ⟨rfl, by omega, fun _ => ⟨_, rfl, fun i hi => by rw [add_lit]; exact h.cell i _ (wordsA_at l i hi)⟩⟩
theorem C_of_blk8 {W : World} {b : Nat} {l : List Int} {t : TypeId} (h : Blk W b (bytesA l) t) (hl : l.length ≤ 1000000) : Kd.C (Kd.int .u8) W (some ⟨b, 0, none⟩) l.length l :=
  Kd.C_of_reads (d := (0 : Int)) (h1 := fun _ => rfl) ⟨rfl, by omega, fun _ => ⟨_, rfl, fun i hi => by rw [add_lit]; exact h.cell i _ (bytesA_at l i hi)⟩⟩
theorem pad_any (A0 : Option Addr) (c0 : Nat) (l0 : List Int) (w : World) (hr : Kd.C (Kd.int .u8) w A0 l0.length l0) (hc : l0.length ≤ c0) (hl : l0.length ≤ 140737488351232) :
    Calls Try.prog 13 #[.slice A0 l0.length c0] w fun e w' => ∃ A c, e = .returned (.slice A (padR l0).length c) ∧ Kd.R (Kd.int .u8) 5 w' w.heap.size (fun _ => True) (.slice A (padR l0).length c) (padR l0) ∧ Kd.C (Kd.int .u8) w' A (padR l0).length (padR l0) ∧ (padR l0).length ≤ c ∧ Below w.heap.size w w' := by
  obtain ⟨K, h⟩ := pad_ev l0 hl
  refine (sha_Pad.calls K A0 c0 l0 (padR l0) w hr hc (h K (Nat.le_refl _))).mono ?_
  rintro e w' ⟨v, rfl, hR, hb⟩
  obtain ⟨A, c, rfl⟩ := Kd.R_slice hR
  obtain ⟨_, hle, hC⟩ := Kd.R_reads' hR
  exact ⟨A, c, rfl, hR, hC, hle, hb⟩
theorem words_any (A : Option Addr) (c : Nat) (xs : List Int) (w : World) (hr : Kd.C (Kd.int .u8) w A 64 xs) (hc : 64 ≤ c) (hb : IsBytes xs) :
    Calls Try.prog 20 #[.slice A 64 c] w fun e w' => ∃ g cap, e = .returned (.tuple #[.slice (some ⟨g, 0, none⟩) 16 cap, .int .i64 0]) ∧ w'.ownsRow w.heap.size 27 1 (.slice (some ⟨g, 0, none⟩) 16 cap) 16 ((wordsOf xs).map (Value.int .u32)) ∧ Below w.heap.size w w' := by
  have hl : xs.length = 64 := hr.1
  have hw : (wordsOf xs).length = 16 := by rw [wordsOf_length, hl]
  obtain ⟨K, h⟩ := words_ok xs hb (by omega) (by omega)
  have hcall := bits_Words.calls K A c xs (wordsOf xs) 0 w (by rw [hl]; exact hr) (by omega) (h K (Nat.le_refl _))
  rw [hl] at hcall
  refine hcall.mono ?_
  rintro e w' ⟨v, rfl, hR, hb⟩
  obtain ⟨g, cap, hv, _⟩ := Kd.R_form hR (by omega)
  have ho := Kd.own_of_R hR
  subst hv
  rw [hw] at ho ⊢
  exact ⟨g, cap, rfl, ho, hb⟩
theorem bytes_any (b : Nat) (t : TypeId) (H : List Int) (w : World) (hB : Blk w b (wordsA H) t) (hl : H.length = 8) :
    Calls Try.prog 21 #[.slice (some ⟨b, 0, none⟩) 8 8] w fun e w' => ∃ g cap, e = .returned (.slice (some ⟨g, 0, none⟩) 32 cap) ∧ w'.ownsRow w.heap.size 5 1 (.slice (some ⟨g, 0, none⟩) 32 cap) 32 ((bytesOfW H).map (Value.int .u8)) ∧ Below w.heap.size w w' := by
  have hw : (bytesOfW H).length = 32 := by rw [bytesOfW_length, hl]
  obtain ⟨K, h⟩ := bytes_ev H (by omega)
  have hcall := bits_Bytes.calls K (some ⟨b, 0, none⟩) 8 H (bytesOfW H) w (C_of_blk hB (by omega)) (by omega) (h K (Nat.le_refl _))
  rw [hl] at hcall
  refine hcall.mono ?_
  rintro e w' ⟨v, rfl, hR, hb⟩
  obtain ⟨g, cap, hv, _⟩ := Kd.R_form hR (by omega)
  have ho := Kd.own_of_R hR
  subst hv
  rw [hw] at ho ⊢
  exact ⟨g, cap, rfl, ho, hb⟩
theorem C_low {W w : World} {A : Option Addr} {l : List Int} {k : IntKind} (h : Kd.C (Kd.int k) w A l.length l) (hb : Below w.heap.size w W) : Kd.C (Kd.int k) W A l.length l := Kd.C_below h hb
theorem list16 {l : List Int} (h : l.length = 16) : ∃ y0 y1 y2 y3 y4 y5 y6 y7 y8 y9 y10 y11 y12 y13 y14 y15, l = [y0, y1, y2, y3, y4, y5, y6, y7, y8, y9, y10, y11, y12, y13, y14, y15] := by
  match l, h with
  | [y0, y1, y2, y3, y4, y5, y6, y7, y8, y9, y10, y11, y12, y13, y14, y15], _ => exact ⟨y0, y1, y2, y3, y4, y5, y6, y7, y8, y9, y10, y11, y12, y13, y14, y15, rfl⟩
theorem map_at {l : List Int} {f : Int → Value} {j : Nat} {u : Value} (h : (l.map f)[j]? = some u) : ∃ x, l[j]? = some x ∧ f x = u := by
  rw [List.getElem?_map, Option.map_eq_some_iff] at h
  exact h
theorem own_cell {W : World} {base n g cap j : Nat} {e : TypeId} {k : IntKind} {l : List Int} (h : W.ownsRow base e 1 (.slice (some ⟨g, 0, none⟩) n cap) n (l.map (Value.int k))) (x : Int) (hx : l[j]? = some x) : W.cell? ⟨g, j, none⟩ = some (.int k x) := by
  have hn : l.length = n := by have := h.1; simpa using this
  have hj : j < l.length := (List.getElem?_eq_some_iff.1 hx).1
  rw [h.cellAt j (by omega), List.getElem?_map, hx]
  rfl
set_option maxRecDepth 100000 in
set_option maxHeartbeats 4000000 in
theorem sum_any (A0 : Option Addr) (c0 : Nat) (l0 : List Int) (w : World) (hr : Kd.C (Kd.int .u8) w A0 l0.length l0) (hc : l0.length ≤ c0) (hl : l0.length ≤ 140737488351232) (hb : IsBytes l0) :
    Calls Try.prog 17 #[.slice A0 l0.length c0] w fun e w' => e = .returned (.agg (bytesA (sumR l0))) ∧ Below w.heap.size w w' := by
  obtain ⟨FIN, hF⟩ : ∃ FIN, FIN = sumL ((padR l0).length / 64) beginL (padR l0) := ⟨_, rfl⟩
  have HFL : Aside0 (FIN.length = 8) := ⟨by rw [hF]; exact sumL_len _ _ _ rfl⟩
  rw [show sumR l0 = bytesOfW FIN by rw [hF, sumR]]
  have HF := Aside0.mk hF
  have HR := Aside0.mk hr
  have HC := Aside0.mk hc
  have HL := Aside0.mk hl
  have HBY := Aside0.mk hb
  have HK := Aside0.mk (Below.refl w.heap.size w)
  clear hF hr hc hl hb
  go_enter Try.func17, Try.ntmps17
  go_upto_region 1 with (first | (fail))
  have g2 : Blk (w.alloc (.cells #[.int .u8 0, .int .u8 0, .int .u8 0, .int .u8 0, .int .u8 0, .int .u8 0, .int .u8 0, .int .u8 0, .int .u8 0, .int .u8 0, .int .u8 0, .int .u8 0, .int .u8 0, .int .u8 0, .int .u8 0, .int .u8 0, .int .u8 0, .int .u8 0, .int .u8 0, .int .u8 0, .int .u8 0, .int .u8 0, .int .u8 0, .int .u8 0, .int .u8 0, .int .u8 0, .int .u8 0, .int .u8 0, .int .u8 0, .int .u8 0, .int .u8 0, .int .u8 0] 32)) w.heap.size (bytesA (List.replicate 32 0)) 32 := Blk.new w #[.int .u8 0, .int .u8 0, .int .u8 0, .int .u8 0, .int .u8 0, .int .u8 0, .int .u8 0, .int .u8 0, .int .u8 0, .int .u8 0, .int .u8 0, .int .u8 0, .int .u8 0, .int .u8 0, .int .u8 0, .int .u8 0, .int .u8 0, .int .u8 0, .int .u8 0, .int .u8 0, .int .u8 0, .int .u8 0, .int .u8 0, .int .u8 0, .int .u8 0, .int .u8 0, .int .u8 0, .int .u8 0, .int .u8 0, .int .u8 0, .int .u8 0, .int .u8 0] 32
  have gb := below_alloc HK.out (.cells #[.int .u8 0, .int .u8 0, .int .u8 0, .int .u8 0, .int .u8 0, .int .u8 0, .int .u8 0, .int .u8 0, .int .u8 0, .int .u8 0, .int .u8 0, .int .u8 0, .int .u8 0, .int .u8 0, .int .u8 0, .int .u8 0, .int .u8 0, .int .u8 0, .int .u8 0, .int .u8 0, .int .u8 0, .int .u8 0, .int .u8 0, .int .u8 0, .int .u8 0, .int .u8 0, .int .u8 0, .int .u8 0, .int .u8 0, .int .u8 0, .int .u8 0, .int .u8 0] 32)
  obtain ⟨n2, hn2⟩ : ∃ n, n = w.heap.size := ⟨_, rfl⟩
  have HN0 := Aside0.mk hn2
  generalize w.alloc (.cells #[.int .u8 0, .int .u8 0, .int .u8 0, .int .u8 0, .int .u8 0, .int .u8 0, .int .u8 0, .int .u8 0, .int .u8 0, .int .u8 0, .int .u8 0, .int .u8 0, .int .u8 0, .int .u8 0, .int .u8 0, .int .u8 0, .int .u8 0, .int .u8 0, .int .u8 0, .int .u8 0, .int .u8 0, .int .u8 0, .int .u8 0, .int .u8 0, .int .u8 0, .int .u8 0, .int .u8 0, .int .u8 0, .int .u8 0, .int .u8 0, .int .u8 0, .int .u8 0] 32) = U0 at *
  rw [← hn2] at g2 gb HK ⊢
  clear hn2 HK
  have G2 := Aside0.mk g2
  have GB := Aside0.mk gb
  clear g2 gb
  go_wp2_with (first
    | (refine wpList_build_as rfl 28 _ rfl (wordsA beginL) (by as_aux_lemma => kernel_rfl) ?_)
    | (refine wpList_store_blk rfl 28 (.tmp 3) (.tmp 7) rfl U0.heap.size (wordsA beginL) rfl rfl 28 _ (Blk.new U0 _ _) (by kernel_rfl) rfl (by kernel_rfl) ?_
       intro U1 hB hg
       have K2 := Aside0.mk ((G2.out.alloc _).grown hg (by have := G2.out.lt; omega))
       have K3 := Aside0.mk hB
       have KB := Aside0.mk (below_grown (GB.out.alloc (Nat.le_of_lt G2.out.lt) _) hg (Nat.le_of_lt G2.out.lt) (by have := G2.out.lt; simp only [World.size_alloc]; omega))
       have KN := Aside0.mk (show n2 < U0.heap.size from G2.out.lt)
       clear hB hg G2 GB)
    | (go_at_call 13; refine (pad_any A0 c0 l0 _ (C_low HR.out (by rw [← HN0.out]; exact KB.out)) HC.out HL.out).mono ?_; rintro e w2 ⟨A, c, rfl, hR2, hC2, hc2, hb2⟩
       have P2 := Aside0.mk (K2.out.below hb2 K2.out.lt)
       have P3 := Aside0.mk (K3.out.below hb2 K3.out.lt)
       have PB := Aside0.mk (KB.out.trans (hb2.mono (Nat.le_of_lt K2.out.lt)))
       have PC := Aside0.mk (Kd.F_mono (ok' := fun k => U0.heap.size < k) (Kd.R_F (Kd.R_bound hR2)) (fun k hk => by have := hk.2.1; have := K3.out.lt; omega))
       have PL_ := Aside0.mk hc2
       clear hR2 hC2 hc2 hb2 K2 K3 KB))
  obtain ⟨n3, hn3⟩ : ∃ n, n = U0.heap.size := ⟨_, rfl⟩
  rw [← hn3] at P3 KN PC ⊢
  clear hn3
  have HS0 : Aside0 (∃ k, (padR l0).length = 64 * k ∧ sumL k beginL (padR l0) = FIN) := ⟨⟨(padR l0).length / 64, by have := padR_mod l0; omega, HF.out.symm⟩⟩
  have HPB : Aside0 (IsBytes (padR l0)) := ⟨padR_isBytes l0 HBY.out⟩
  generalize padR l0 = P0 at *
  clear HF
  go_loopw [4] (fun v4 wr => ∃ (xs : List Int) (A : Option Addr) (c : Nat) (H : List Int), v4 = .slice A xs.length c ∧ Aside0 (∃ k, xs.length = 64 * k ∧ sumL k H xs = FIN) ∧ Aside0 (IsBytes xs) ∧ Aside0 (H.length = 8) ∧ Aside0 (Kd.F (Kd.int .u8) wr (fun k => n3 < k) A xs.length xs) ∧ Aside0 (xs.length ≤ c) ∧ Aside0 (Blk wr n2 (bytesA (List.replicate 32 0)) 32) ∧ Aside0 (Blk wr n3 (wordsA H) 28) ∧ Aside0 (Below n2 w wr)) (fun v4 _ => match v4 with | .slice _ n _ => n | _ => 0)
  case atStart => exact ⟨P0, A, c, beginL, rfl, HS0, HPB, ⟨rfl⟩, PC, PL_, P2, P3, PB⟩
  case round =>
    clear HS0 HPB PC PL_ P2 P3 PB
    obtain ⟨xs, A1, c1, H, rfl, HS, HPB, HHL, PC, PL_, P2, P3, PB⟩ := hrel
    by_cases hx : 0 < xs.length
    · obtain ⟨k, hk, hs⟩ := HS.out
      have h64 : 64 ≤ xs.length := by omega
      obtain ⟨k1, rfl⟩ : ∃ k1, k = k1 + 1 := ⟨k - 1, by omega⟩
      obtain ⟨v0, v1, v2, v3, v4, v5, v6, v7, rfl⟩ := list8 HHL.out
      have hwl : (wordsOf (xs.take 64)).length = 16 := by rw [wordsOf_length, List.length_take]; omega
      obtain ⟨y0, y1, y2, y3, y4, y5, y6, y7, y8, y9, y10, y11, y12, y13, y14, y15, hy⟩ := list16 hwl
      have HNX : Aside0 (∃ k, (xs.drop 64).length = 64 * k ∧ sumL k (blockR [v0, v1, v2, v3, v4, v5, v6, v7] [y0, y1, y2, y3, y4, y5, y6, y7, y8, y9, y10, y11, y12, y13, y14, y15]) (xs.drop 64) = FIN) := ⟨⟨k1, by rw [List.length_drop]; omega, by rw [← hs, sumL, hy]⟩⟩
      obtain ⟨i8, hi8, hz8⟩ : ∃ i, Try.prog.info? 5 = some i ∧ i.size = 1 := by obtain ⟨i, h1, _, h2, _⟩ := info_parts info5; exact ⟨i, h1, h2⟩
      have hcut1 := cut_to (P := Try.prog) 22 5 .i64 Try.underlying22 hi8 A1 xs.length c1 64 (by decide) (by omega) PL_.out
      obtain ⟨A2, hA2⟩ : ∃ A2, A2 = if c1 = (64 : Int).toNat then A1 else A1.map (·.add ((64 : Int).toNat * 1)) := ⟨_, rfl⟩
      have hcut2 := cut_from (P := Try.prog) 22 5 .i64 Try.underlying22 hi8 1 hz8 A1 xs.length c1 64 (by decide) (by omega)
      rw [← hA2] at hcut2
      have HC1 := Aside0.mk hcut1
      have HC2 := Aside0.mk hcut2
      have HY := Aside0.mk hy
      have HT : Aside0 (Kd.C (Kd.int .u8) wr A1 64 (xs.take 64)) := ⟨by have := Kd.C_take (m := 64) (Kd.F_now PC.out) h64; rwa [List.length_take, Nat.min_eq_left h64] at this⟩
      have HD : Aside0 (Kd.F (Kd.int .u8) wr (fun k => n3 < k) A2 (xs.drop 64).length (xs.drop 64)) := ⟨by rw [hA2]; exact Kd.F_cut (m := 64) (c := c1) PC.out h64 PL_.out⟩
      have HTB : Aside0 (IsBytes (xs.take 64)) := ⟨fun x h => HPB.out x (List.mem_of_mem_take h)⟩
      have HDB : Aside0 (IsBytes (xs.drop 64)) := ⟨fun x h => HPB.out x (List.mem_of_mem_drop h)⟩
      have HDL : Aside0 ((xs.drop 64).length = xs.length - (64 : Int).toNat) := ⟨List.length_drop⟩
      have H64 := Aside0.mk h64
      have hxi : (0 : Int) < xs.length := by omega
      clear hk hs hi8 hz8 hA2 hcut1 hcut2 hy h64 hx hwl
      have hcut1 := HC1.out
      have hcut2 := HC2.out
      go_wp2_with (first
        | (go_at_call 20; refine (words_any A1 c1 (xs.take 64) _ HT.out (by have := PL_.out; have := H64.out; omega) HTB.out).mono ?_; rintro e w5 ⟨g, cap, rfl, hown, hb5⟩
           have Q2 := Aside0.mk (P2.out.below hb5 P2.out.lt)
           have Q3 := Aside0.mk (P3.out.below hb5 P3.out.lt)
           have QB := Aside0.mk (PB.out.trans (hb5.mono (Nat.le_of_lt P2.out.lt)))
           have QD := Aside0.mk (Kd.F_below HD.out hb5)
           rw [HY.out] at hown
           have QO := Aside0.mk hown
           clear hown hb5 P2 P3 PB HD PC HT))
      have hc0 : w5.cell? ⟨n3, 0, none⟩ = some (.int .u32 v0) := Q3.out.cell 0 _ rfl
      have hc1 : w5.cell? ⟨n3, 1, none⟩ = some (.int .u32 v1) := Q3.out.cell 1 _ rfl
      have hc2 : w5.cell? ⟨n3, 2, none⟩ = some (.int .u32 v2) := Q3.out.cell 2 _ rfl
      have hc3 : w5.cell? ⟨n3, 3, none⟩ = some (.int .u32 v3) := Q3.out.cell 3 _ rfl
      have hc4 : w5.cell? ⟨n3, 4, none⟩ = some (.int .u32 v4) := Q3.out.cell 4 _ rfl
      have hc5 : w5.cell? ⟨n3, 5, none⟩ = some (.int .u32 v5) := Q3.out.cell 5 _ rfl
      have hc6 : w5.cell? ⟨n3, 6, none⟩ = some (.int .u32 v6) := Q3.out.cell 6 _ rfl
      have hc7 : w5.cell? ⟨n3, 7, none⟩ = some (.int .u32 v7) := Q3.out.cell 7 _ rfl
      have hy0 : w5.cell? ⟨g, 0, none⟩ = some (.int .u32 y0) := own_cell QO.out y0 rfl
      have hy1 : w5.cell? ⟨g, 1, none⟩ = some (.int .u32 y1) := own_cell QO.out y1 rfl
      have hy2 : w5.cell? ⟨g, 2, none⟩ = some (.int .u32 y2) := own_cell QO.out y2 rfl
      have hy3 : w5.cell? ⟨g, 3, none⟩ = some (.int .u32 y3) := own_cell QO.out y3 rfl
      have hy4 : w5.cell? ⟨g, 4, none⟩ = some (.int .u32 y4) := own_cell QO.out y4 rfl
      have hy5 : w5.cell? ⟨g, 5, none⟩ = some (.int .u32 y5) := own_cell QO.out y5 rfl
      have hy6 : w5.cell? ⟨g, 6, none⟩ = some (.int .u32 y6) := own_cell QO.out y6 rfl
      have hy7 : w5.cell? ⟨g, 7, none⟩ = some (.int .u32 y7) := own_cell QO.out y7 rfl
      have hy8 : w5.cell? ⟨g, 8, none⟩ = some (.int .u32 y8) := own_cell QO.out y8 rfl
      have hy9 : w5.cell? ⟨g, 9, none⟩ = some (.int .u32 y9) := own_cell QO.out y9 rfl
      have hy10 : w5.cell? ⟨g, 10, none⟩ = some (.int .u32 y10) := own_cell QO.out y10 rfl
      have hy11 : w5.cell? ⟨g, 11, none⟩ = some (.int .u32 y11) := own_cell QO.out y11 rfl
      have hy12 : w5.cell? ⟨g, 12, none⟩ = some (.int .u32 y12) := own_cell QO.out y12 rfl
      have hy13 : w5.cell? ⟨g, 13, none⟩ = some (.int .u32 y13) := own_cell QO.out y13 rfl
      have hy14 : w5.cell? ⟨g, 14, none⟩ = some (.int .u32 y14) := own_cell QO.out y14 rfl
      have hy15 : w5.cell? ⟨g, 15, none⟩ = some (.int .u32 y15) := own_cell QO.out y15 rfl
      have hsp := run_arrayAt (P := Try.prog) 29 (some ⟨g, 0, none⟩) 16 cap 16 27 Try.underlying29 (Nat.le_refl _)
      go_still_tail 4, (by kernel_rfl)
      clear hc0 hc1 hc2 hc3 hc4 hc5 hc6 hc7 hsp
      clear hy0 hy1 hy2 hy3 hy4 hy5 hy6 hy7 hy8 hy9 hy10 hy11 hy12 hy13 hy14 hy15
      have R2 := Aside0.mk (show Blk w5.drew n2 _ 32 from Q2.out)
      have R3 := Aside0.mk (show Blk w5.drew n3 _ 28 from Q3.out)
      have RB := Aside0.mk (below_drew1 QB.out)
      have RD := Aside0.mk (Kd.F_drew QD.out)
      clear Q2 Q3 QB QD QO
      go_wp2_with fail
      refine Calls.mono (block_any [v0, v1, v2, v3, v4, v5, v6, v7] [y0, y1, y2, y3, y4, y5, y6, y7, y8, y9, y10, y11, y12, y13, y14, y15] w5.drew rfl rfl) ?_
      rintro e w7 ⟨rfl, hb7⟩
      have S2 := Aside0.mk (R2.out.below hb7 R2.out.lt)
      have S3 := Aside0.mk (R3.out.below hb7 R3.out.lt)
      have SB := Aside0.mk (RB.out.trans (hb7.mono (Nat.le_of_lt R2.out.lt)))
      have SD := Aside0.mk (Kd.F_below RD.out hb7)
      clear hb7 R2 R3 RB RD
      go_wp2_with (first
        | (refine wpList_store_blk rfl 28 (.tmp 3) (.tmp 25) rfl n3 (wordsA (blockR [v0, v1, v2, v3, v4, v5, v6, v7] [y0, y1, y2, y3, y4, y5, y6, y7, y8, y9, y10, y11, y12, y13, y14, y15])) rfl rfl 28 _ S3.out (by rw [words_size, block_len _ _ rfl]; kernel_rfl) (by rw [words_size, words_size, block_len _ _ rfl]; rfl) (words_one _) ?_
           intro w8 hv hg
           have hn := KN.out
           have T2 := Aside0.mk (S2.out.grown hg (by omega))
           have TB := Aside0.mk (below_grown SB.out hg (by omega) (by have := S2.out.lt; omega))
           have TD := Aside0.mk (Kd.F_grown SD.out hg (fun k hk => by simp only [ne_eq, Option.some.injEq]; omega))
           have T3 := Aside0.mk hv
           clear hn hv hg S2 S3 SB SD))
      go_roundw
      case measure => have := H64.out; have := HDL.out; simp; omega
      case rel => exact ⟨xs.drop 64, A2, c1 - (64 : Int).toNat, blockR [v0, v1, v2, v3, v4, v5, v6, v7] [y0, y1, y2, y3, y4, y5, y6, y7, y8, y9, y10, y11, y12, y13, y14, y15], by rw [HDL.out]; rfl, HNX, HDB, ⟨block_len _ _ rfl⟩, TD, ⟨by have := PL_.out; have := HDL.out; omega⟩, T2, T3, TB⟩
    · have hx0 : ¬ (0 : Int) < xs.length := by omega
      have hH : H = FIN := by
        obtain ⟨k, hk, hs⟩ := HS.out
        obtain rfl : k = 0 := by omega
        exact hs
      subst hH
      clear hx HS HPB PC PL_
      have hbyt := fun W h => bytes_any n3 28 H W h HHL.out
      have HBYT := Aside0.mk hbyt
      clear hbyt
      go_wp2_with (first
        | (go_at_call 21; refine (HBYT.out _ P3.out).mono ?_; rintro e w5 ⟨g, cap, rfl, hown, hb5⟩
           have Q2 := Aside0.mk (P2.out.below hb5 P2.out.lt)
           have QB := Aside0.mk (PB.out.trans (hb5.mono (Nat.le_of_lt P2.out.lt)))
           have QO := Aside0.mk hown
           clear hown hb5 P2 P3 PB)
        | (refine wpList_s2ap rfl 32 (.tmp 27) rfl (some ⟨g, 0, none⟩) 32 cap 32 5 rfl Try.underlying32 (Nat.le_refl _) ?_)
        | (refine wpList_load_range rfl 32 (.tmp 28) rfl g rfl ((bytesOfW H).map (Value.int .u8)) 32 5 (fun j u hu => by obtain ⟨x, hx, rfl⟩ := map_at hu; exact own_cell QO.out x hx) Try.underlying32 (by rw [List.length_map, bytesOfW_length, HHL.out]; kernel_rfl) ?_)
        | (refine wpList_store_blk rfl 32 (.tmp 2) (.tmp 29) rfl n2 (bytesA (bytesOfW H)) rfl rfl 32 _ Q2.out (by rw [bytes_size, bytesOfW_length, HHL.out]; kernel_rfl) (by rw [bytes_size, bytes_size, bytesOfW_length, HHL.out]; rfl) (bytes_one _) ?_
           intro w9 hv hg
           have gb := Aside0.mk (below_grown QB.out hg (Nat.le_refl _) (by have := Q2.out.lt; omega))
           have gv := Aside0.mk hv
           clear hv hg Q2 QB QO))
      refine bodyPost_ret (v := .agg (bytesA (bytesOfW H))) (results_cell_row (by rfl) _ _ n2 32 _ (0, 0) _ (by rfl) gv.out Try.underlying32 rfl (by rw [bytes_size, bytesOfW_length, HHL.out]; kernel_rfl)) rfl ⟨rfl, by rw [← HN0.out]; exact gb.out⟩
end Go.Proofs.Ytbakfengmehkkaa.G
