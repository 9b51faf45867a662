/- Plain laws of layer 1: what the printed functions of bits and of its reference come to, on lists and numbers. -/
import Derived.Laws.BitsAllLaws
import Derived.Test.YtbakfengmehkkaaPLyA
import Derived.Test.YtbakfengmehkkaaPLyB
namespace Go.Proofs.Ytbakfengmehkkaa.Q
open Go Go.RowKit Go.Proofs.Ytbakfengmehkkaa.PL Go.Proofs.YtbakfengmehkkaaW.PrintWords Go.Proofs.YtbakfengmehkkaaW.PrintLast Go.Proofs.YtbakfengmehkkaaW.PrintMore

theorem w64 {x : Int} (h0 : -9223372036854775808 ≤ x) (h1 : x ≤ 9223372036854775807) : wrap64 x = x := by
  unfold wrap64
  omega
theorem w64_succ (i : Nat) (h : i ≤ 9223372036854775806) : wrap64 ((i : Int) + 1) = ((i + 1 : Nat) : Int) := by rw [w64 (by omega) (by omega)]; omega
theorem w64_four (i : Nat) (h : i ≤ 1000000000000000000) : wrap64 (4 * (i : Int)) = ((4 * i : Nat) : Int) := by rw [w64 (by omega) (by omega)]; omega
theorem w64_plus (i c : Nat) (h : i + c ≤ 9223372036854775807) : wrap64 ((i : Int) + (c : Int)) = ((i + c : Nat) : Int) := by rw [w64 (by omega) (by omega)]; omega
theorem ev_of {α : Type} {g : Nat → Option α} {r : α} (K : Nat) (h : ∀ k, K ≤ k → g k = some r) : Ev g r := ⟨K, h⟩
theorem ev_ite {α : Type} {c : Prop} [Decidable c] {g f : Nat → Option α} {r : α} (h1 : c → Ev g r) (h2 : ¬ c → Ev f r) : Ev (fun k => if c then g k else f k) r := by
  by_cases h : c
  · obtain ⟨K, hK⟩ := h1 h
    exact ⟨K, fun k hk => by simp only [if_pos h]; exact hK k hk⟩
  · obtain ⟨K, hK⟩ := h2 h
    exact ⟨K, fun k hk => by simp only [if_neg h]; exact hK k hk⟩
theorem ev_unique {α : Type} {g : Nat → Option α} {r q : α} (h : Ev g r) (h' : Ev g q) : r = q := by
  obtain ⟨K, h⟩ := h
  obtain ⟨K', h'⟩ := h'
  have a := h (max K K') (by omega)
  have b := h' (max K K') (by omega)
  rw [a] at b
  exact Option.some.inj b

/-! ### rows that are the same -/
theorem same_gen {L : Nat → List Int → List Int → Int → Option Bool}
    (hL : ∀ k x0 x1 x5, L (k + 1) x0 x1 x5 = if x5 < (x0.length : Int) then (if 0 ≤ x5 then (if x5 < (x1.length : Int) then (if rd x0 x5 = rd x1 x5 then L k x0 x1 (wrap64 (x5 + 1)) else some false) else none) else none) else some true)
    (a b : List Int) (hab : a.length = b.length) (hlen : a.length ≤ 9223372036854775806) (d : Nat) :
    ∀ (k i : Nat), a.length - i = d → i ≤ a.length → d < k → L k a b (i : Int) = some (decide (a.drop i = b.drop i)) := by
  induction d with
  | zero =>
    intro k i hd hi hk
    obtain ⟨k, rfl⟩ : ∃ m, k = m + 1 := ⟨k - 1, by omega⟩
    have : i = a.length := by omega
    subst this
    rw [hL, if_neg (by omega)]
    simp [hab]
  | succ d ih =>
    intro k i hd hi hk
    obtain ⟨k, rfl⟩ : ∃ m, k = m + 1 := ⟨k - 1, by omega⟩
    have hlt : i < a.length := by omega
    have hlt' : i < b.length := by omega
    rw [hL, if_pos (by omega), if_pos (by omega), if_pos (by omega)]
    rw [List.drop_eq_getElem_cons hlt, List.drop_eq_getElem_cons hlt']
    have ha : rd a (i : Int) = a[i] := by simp [rd, hlt]
    have hb : rd b (i : Int) = b[i] := by simp [rd, hlt']
    rw [ha, hb]
    by_cases h : a[i] = b[i]
    · rw [if_pos h, w64 (by omega) (by omega), show ((i : Int) + 1) = ((i + 1 : Nat) : Int) by omega, ih k (i + 1) (by omega) (by omega) (by omega)]
      simp only [List.cons.injEq, h, true_and]
    · rw [if_neg h]
      simp only [List.cons.injEq, h, false_and, decide_false]
theorem same_ev (a b : List Int) (hl : a.length ≤ 9223372036854775806) : Ev (fun k => gatelineref01_Same.f k a b) (decide (a = b)) := by
  refine ⟨a.length + 1, fun k hk => ?_⟩
  show gatelineref01_Same.f k a b = _
  unfold gatelineref01_Same.f
  by_cases h : a.length = b.length
  · rw [if_pos (by omega)]
    have := same_gen (L := gatelineref01_Same.l0) (fun _ _ _ _ => rfl) a b h hl a.length k 0 (by omega) (by omega) (by omega)
    simpa using this
  · rw [if_neg (by omega)]
    congr 1
    exact (decide_eq_false (fun e => h (by rw [e]))).symm
theorem same_true (a : List Int) (hl : a.length ≤ 9223372036854775806) : Ev (fun k => gatelineref01_Same.f k a a) true := by
  have := same_ev a a hl
  simpa using this

def IsBytes (b : List Int) : Prop := ∀ x ∈ b, 0 ≤ x ∧ x ≤ 255
def IsWords (b : List Int) : Prop := ∀ x ∈ b, 0 ≤ x ∧ x < 4294967296
theorem isBytes_of {b : List Int} (h : ∀ x ∈ b, (Lit.int .u8 x).wf = true) : IsBytes b := fun x hx => by
  have := h x hx
  have h1 : IntKind.u8.min = 0 := rfl
  have h2 : IntKind.u8.max = 255 := rfl
  simp only [Lit.wf, Bool.and_eq_true, decide_eq_true_eq] at this
  omega
theorem isWords_of {b : List Int} (h : ∀ x ∈ b, (Lit.int .u32 x).wf = true) : IsWords b := fun x hx => by
  have := h x hx
  have h1 : IntKind.u32.min = 0 := rfl
  have h2 : IntKind.u32.max = 4294967295 := rfl
  simp only [Lit.wf, Bool.and_eq_true, decide_eq_true_eq] at this
  omega
theorem i64_of {x : Int} (h : (Lit.int .i64 x).wf = true) : -9223372036854775808 ≤ x ∧ x ≤ 9223372036854775807 := by
  have h1 : IntKind.i64.min = -9223372036854775808 := rfl
  have h2 : IntKind.i64.max = 9223372036854775807 := rfl
  simp only [Lit.wf, Bool.and_eq_true, decide_eq_true_eq] at h
  omega
theorem u32_of {x : Int} (h : (Lit.int .u32 x).wf = true) : 0 ≤ x ∧ x < 4294967296 := by
  have h1 : IntKind.u32.min = 0 := rfl
  have h2 : IntKind.u32.max = 4294967295 := rfl
  simp only [Lit.wf, Bool.and_eq_true, decide_eq_true_eq] at h
  omega
theorem IsBytes.getD {b : List Int} (h : IsBytes b) (i : Nat) : 0 ≤ b.getD i 0 ∧ b.getD i 0 ≤ 255 := by
  rw [List.getD_eq_getElem?_getD]
  rcases Nat.lt_or_ge i b.length with hi | hi
  · rw [List.getElem?_eq_getElem hi]
    exact h _ (List.getElem_mem hi)
  · rw [List.getElem?_eq_none hi]
    simp
theorem IsWords.getD {b : List Int} (h : IsWords b) (i : Nat) : 0 ≤ b.getD i 0 ∧ b.getD i 0 < 4294967296 := by
  rw [List.getD_eq_getElem?_getD]
  rcases Nat.lt_or_ge i b.length with hi | hi
  · rw [List.getElem?_eq_getElem hi]
    exact h _ (List.getElem_mem hi)
  · rw [List.getElem?_eq_none hi]
    simp

/-! ### or -/
theorem or_u32 (i p : Nat) (hp : 2 ^ i = p) (hpl : p ≤ 4294967296) (x y : Int) (h0 : 0 ≤ x) (h1 : x < 4294967296) (hx : x % (p : Int) = 0) (hy0 : 0 ≤ y) (hy : y < p) : Go.bits .or .u32 x y = x + y := by
  obtain ⟨X, rfl⟩ := Int.eq_ofNat_of_zero_le h0
  obtain ⟨Y, rfl⟩ := Int.eq_ofNat_of_zero_le hy0
  rw [u32_or_nat X Y (by omega) (by omega), nat_join i X Y (by rw [hp]; omega) (by rw [hp]; omega)]
  omega
theorem or_u64 (i p : Nat) (hp : 2 ^ i = p) (hpl : p ≤ 18446744073709551616) (x y : Int) (h0 : 0 ≤ x) (h1 : x < 18446744073709551616) (hx : x % (p : Int) = 0) (hy0 : 0 ≤ y) (hy : y < p) : Go.bits .or .u64 x y = x + y := by
  obtain ⟨X, rfl⟩ := Int.eq_ofNat_of_zero_le h0
  obtain ⟨Y, rfl⟩ := Int.eq_ofNat_of_zero_le hy0
  rw [u64_or_nat X Y (by omega) (by omega), nat_join i X Y (by rw [hp]; omega) (by rw [hp]; omega)]
  omega
theorem or4 (a b c d : Int) (ha : 0 ≤ a ∧ a ≤ 255) (hb : 0 ≤ b ∧ b ≤ 255) (hc : 0 ≤ c ∧ c ≤ 255) (hd : 0 ≤ d ∧ d ≤ 255) :
    Go.bits .or .u32 (Go.bits .or .u32 (Go.bits .or .u32 (((a % 4294967296) * 16777216) % 4294967296) (((b % 4294967296) * 65536) % 4294967296)) (((c % 4294967296) * 256) % 4294967296)) (d % 4294967296) = a * 16777216 + b * 65536 + c * 256 + d := by
  rw [or_u32 24 16777216 (by decide) (by decide) (((a % 4294967296) * 16777216) % 4294967296) _ (by omega) (by omega) (by omega) (by omega) (by omega)]
  rw [or_u32 16 65536 (by decide) (by decide) _ (((c % 4294967296) * 256) % 4294967296) (by omega) (by omega) (by omega) (by omega) (by omega)]
  rw [or_u32 8 256 (by decide) (by decide) _ (d % 4294967296) (by omega) (by omega) (by omega) (by omega) (by omega)]
  omega

/-! ### words -/
def word (b : List Int) (i : Nat) : Int := b.getD (4 * i) 0 * 16777216 + b.getD (4 * i + 1) 0 * 65536 + b.getD (4 * i + 2) 0 * 256 + b.getD (4 * i + 3) 0
def wordsOf (b : List Int) : List Int := (List.range (b.length / 4)).map (word b)
theorem rd_cut (b : List Int) (m j : Nat) (hj : j < 4) : rd ((b.take (m + 4)).drop m) (j : Int) = b.getD (m + j) 0 := by
  simp only [rd, Int.toNat_natCast, List.getD_eq_getElem?_getD, List.getElem?_drop, List.getElem?_take]
  rw [if_pos (by omega)]
theorem words_l0 (b : List Int) (hb : IsBytes b) (n : Nat) (hn : 4 * n = b.length) (hlen : b.length ≤ 140737488355328) (d : Nat) :
    ∀ (k i : Nat) (x4 : List Int), n - i = d → i ≤ n → x4.length = n → (∀ j, j < i → x4[j]? = some (word b j)) → d < k →
      bits_Words.l0 k b x4 (n : Int) (i : Int) = some ((List.range n).map (word b), 0) := by
  induction d with
  | zero =>
    intro k i x4 hd hi hx hw hk
    obtain ⟨k, rfl⟩ : ∃ m, k = m + 1 := ⟨k - 1, by omega⟩
    simp only [bits_Words.l0]
    rw [if_neg (by omega)]
    have : x4 = (List.range n).map (word b) := by
      apply List.ext_getElem?
      intro j
      rcases Nat.lt_or_ge j n with hj | hj
      · rw [hw j (by omega)]
        simp [hj]
      · rw [List.getElem?_eq_none (by omega)]
        simp [hj]
    rw [this]
  | succ d ih =>
    intro k i x4 hd hi hx hw hk
    obtain ⟨k, rfl⟩ : ∃ m, k = m + 1 := ⟨k - 1, by omega⟩
    have e3 : ((b.take (4 * i + 4)).drop (4 * i)).length = 4 := by simp; omega
    have c1 : (i : Int) < (n : Int) := by omega
    have c2 : (0 : Int) ≤ ((4 * i : Nat) : Int) := by omega
    have c3 : ((4 * i : Nat) : Int) ≤ ((4 * i + 4 : Nat) : Int) := by omega
    have c4 : ((4 * i + 4 : Nat) : Int) ≤ (b.length : Int) := by omega
    have c5 : (0 : Int) < ((4 : Nat) : Int) := by omega
    have c6 : (1 : Int) < ((4 : Nat) : Int) := by omega
    have c7 : (2 : Int) < ((4 : Nat) : Int) := by omega
    have c8 : (3 : Int) < ((4 : Nat) : Int) := by omega
    have c9 : (0 : Int) ≤ (i : Int) := by omega
    have c10 : (i : Int) < (x4.length : Int) := by omega
    have hi4 : 4 * i + 4 ≤ 9223372036854775807 := by omega
    have hi1 : i ≤ 9223372036854775806 := by omega
    have hi2 : i ≤ 1000000000000000000 := by omega
    have e1 := w64_four i hi2
    have e2 : wrap64 (((4 * i : Nat) : Int) + 4) = ((4 * i + 4 : Nat) : Int) := w64_plus (4 * i) 4 hi4
    have e5 := w64_succ i hi1
    rw [bits_Words.l0, if_pos c1, e1, if_pos c2, e2, if_pos c3, if_pos c4, Int.toNat_natCast, Int.toNat_natCast, e3, if_pos c5, if_pos c6, if_pos c7, if_pos c8, if_pos c9, if_pos c10, Int.toNat_natCast, e5]
    clear e1 e2 e5
    have r0 : rd ((b.take (4 * i + 4)).drop (4 * i)) 0 = _ := rd_cut b (4 * i) 0 (by omega)
    have r1 : rd ((b.take (4 * i + 4)).drop (4 * i)) 1 = _ := rd_cut b (4 * i) 1 (by omega)
    have r2 : rd ((b.take (4 * i + 4)).drop (4 * i)) 2 = _ := rd_cut b (4 * i) 2 (by omega)
    have r3 : rd ((b.take (4 * i + 4)).drop (4 * i)) 3 = _ := rd_cut b (4 * i) 3 (by omega)
    rw [r0, r1, r2, r3, or4 _ _ _ _ (hb.getD _) (hb.getD _) (hb.getD _) (hb.getD _)]
    clear r0 r1 r2 r3
    refine ih k (i + 1) _ (by omega) (by omega) (by simp [hx]) ?_ (by omega)
    intro j hj
    rw [List.getElem?_set]
    by_cases h : i = j
    · subst h
      rw [if_pos rfl, if_pos (by omega)]
      rfl
    · rw [if_neg h]
      exact hw j (by omega)
theorem words_ok (b : List Int) (hb : IsBytes b) (hlen : b.length ≤ 140737488355328) (h4 : b.length % 4 = 0) : Ev (fun k => bits_Words.f k b) (wordsOf b, 0) := by
  refine ⟨b.length / 4 + 1, fun k hk => ?_⟩
  show bits_Words.f k b = _
  unfold bits_Words.f
  have e : wrap64 ((b.length : Int) / 4) = ((b.length / 4 : Nat) : Int) := by rw [w64 (by omega) (by omega)]; omega
  rw [if_pos (by omega), e, if_pos (by omega), if_pos (by simp only [Int.toNat_natCast]; omega)]
  simp only [Int.toNat_natCast, Option.bind_some, List.length_replicate]
  exact words_l0 b hb (b.length / 4) (by omega) hlen (b.length / 4) k 0 _ (by omega) (by omega) (by simp) (fun j hj => by omega) (by omega)
theorem words_no (b : List Int) (h4 : b.length % 4 ≠ 0) : Ev (fun k => bits_Words.f k b) ([], 1) := by
  refine ⟨0, fun k _ => ?_⟩
  show bits_Words.f k b = _
  unfold bits_Words.f
  rw [if_neg (by omega)]
def wordsR (b : List Int) : List Int × Int := if b.length % 4 = 0 then (wordsOf b, 0) else ([], 1)
theorem words_ev (b : List Int) (hb : IsBytes b) (hlen : b.length ≤ 140737488355328) : Ev (fun k => bits_Words.f k b) (wordsR b) := by
  unfold wordsR
  by_cases h : b.length % 4 = 0
  · rw [if_pos h]; exact words_ok b hb hlen h
  · rw [if_neg h]; exact words_no b h
theorem wordsOf_length (b : List Int) : (wordsOf b).length = b.length / 4 := by simp [wordsOf]
theorem wordsR_length (b : List Int) : (wordsR b).1.length ≤ b.length := by
  unfold wordsR
  split
  · rw [wordsOf_length]; omega
  · simp

/-! ### bytes of words -/
def bytesW (x : Int) : List Int := [(x / 16777216) % 256, (x / 65536) % 256, (x / 256) % 256, x % 256]
def bytesOfW (w : List Int) : List Int := w.flatMap bytesW
theorem bytesOfW_length (w : List Int) : (bytesOfW w).length = 4 * w.length := by
  induction w with
  | nil => rfl
  | cons x w ih =>
    unfold bytesOfW at ih ⊢
    rw [List.flatMap_cons, List.length_append, ih, List.length_cons]
    simp only [bytesW, List.length_cons, List.length_nil]
    omega
theorem take_snoc (w : List Int) (i : Nat) (h : i < w.length) : w.take (i + 1) = w.take i ++ [w.getD i 0] := by
  rw [List.take_succ_eq_append_getElem h, List.getD_eq_getElem?_getD, List.getElem?_eq_getElem h]
  rfl
theorem bytesOfW_snoc (w : List Int) (i : Nat) (h : i < w.length) : bytesOfW (w.take (i + 1)) = bytesOfW (w.take i) ++ bytesW (w.getD i 0) := by
  rw [take_snoc w i h]
  simp [bytesOfW]
theorem bytes_l0 (w : List Int) (hlen : w.length ≤ 1000000000) (d : Nat) : ∀ (k i : Nat), w.length - i = d → i ≤ w.length → d < k →
    bits_Bytes.l0 k (bytesOfW (w.take i)) w (w.length : Int) (i : Int) = some (bytesOfW w) := by
  induction d with
  | zero =>
    intro k i hd hi hk
    obtain ⟨k, rfl⟩ : ∃ m, k = m + 1 := ⟨k - 1, by omega⟩
    simp only [bits_Bytes.l0]
    rw [if_neg (by omega), show i = w.length by omega, List.take_length]
  | succ d ih =>
    intro k i hd hi hk
    obtain ⟨k, rfl⟩ : ∃ m, k = m + 1 := ⟨k - 1, by omega⟩
    have e5 := w64_succ i (by omega)
    have hl : (bytesOfW (w.take i)).length = 4 * i := by rw [bytesOfW_length, List.length_take]; omega
    have hr : rd w (i : Int) = w.getD i 0 := by simp [rd]
    simp only [bits_Bytes.l0, e5, Option.bind_some, hl, hr]
    rw [if_pos (by omega), if_pos (by omega), if_pos (by omega), if_pos (by simp only [List.length_cons, List.length_nil]; omega)]
    have := ih k (i + 1) (by omega) (by omega) (by omega)
    rw [bytesOfW_snoc w i (by omega)] at this
    exact this
theorem bytes_ev (w : List Int) (hlen : w.length ≤ 1000000000) : Ev (fun k => bits_Bytes.f k w) (bytesOfW w) := by
  refine ⟨w.length + 1, fun k hk => ?_⟩
  show bits_Bytes.f k w = _
  unfold bits_Bytes.f
  have e : wrap64 (4 * (w.length : Int)) = ((4 * w.length : Nat) : Int) := by rw [w64 (by omega) (by omega)]; omega
  rw [e, if_pos (by omega), if_pos (by simp only [Int.toNat_natCast]; omega)]
  exact bytes_l0 w hlen w.length k 0 (by omega) (by omega) (by omega)

/-! ### there and back -/
theorem wordsOf_cons4 (a b c d : Int) (t : List Int) : wordsOf (a :: b :: c :: d :: t) = (a * 16777216 + b * 65536 + c * 256 + d) :: wordsOf t := by
  unfold wordsOf
  rw [show (a :: b :: c :: d :: t).length / 4 = t.length / 4 + 1 by simp only [List.length_cons]; omega, List.range_succ_eq_map, List.map_cons, List.map_map]
  congr 1
theorem bytes_words (n : Nat) : ∀ b : List Int, b.length = 4 * n → IsBytes b → bytesOfW (wordsOf b) = b := by
  induction n with
  | zero =>
    intro b hb _
    have : b = [] := List.eq_nil_of_length_eq_zero (by omega)
    subst this
    rfl
  | succ n ih =>
    intro b hb hB
    match b, hb with
    | a :: b :: c :: d :: t, hb =>
      have ha := hB a (by simp)
      have hb' := hB b (by simp)
      have hc := hB c (by simp)
      have hd := hB d (by simp)
      have iht := ih t (by simp only [List.length_cons] at hb; omega) (fun x hx => hB x (by simp [hx]))
      rw [wordsOf_cons4]
      unfold bytesOfW at iht ⊢
      rw [List.flatMap_cons, iht]
      simp only [bytesW, List.cons_append, List.nil_append, List.cons.injEq, and_true]
      omega
theorem words_bytes (w : List Int) (hw : IsWords w) : wordsOf (bytesOfW w) = w := by
  induction w with
  | nil => rfl
  | cons x w ih =>
    have hx := hw x (by simp)
    have ih' := ih (fun y hy => hw y (by simp [hy]))
    have : bytesOfW (x :: w) = (x / 16777216) % 256 :: (x / 65536) % 256 :: (x / 256) % 256 :: x % 256 :: bytesOfW w := by
      simp [bytesOfW, bytesW]
    rw [this, wordsOf_cons4, ih']
    congr 1
    omega
theorem bytesOfW_isBytes (w : List Int) : IsBytes (bytesOfW w) := by
  intro x hx
  unfold bytesOfW at hx
  obtain ⟨y, _, hy⟩ := List.mem_flatMap.1 hx
  simp only [bytesW, List.mem_cons, List.not_mem_nil, or_false] at hy
  omega
theorem wordsOf_isWords (b : List Int) (hb : IsBytes b) : IsWords (wordsOf b) := by
  intro x hx
  unfold wordsOf at hx
  obtain ⟨i, _, rfl⟩ := List.mem_map.1 hx
  have h0 := hb.getD (4 * i)
  have h1 := hb.getD (4 * i + 1)
  have h2 := hb.getD (4 * i + 2)
  have h3 := hb.getD (4 * i + 3)
  unfold word
  omega

/-! ### turns -/
def R (k X : Nat) : Nat := X / 2 ^ k + X % 2 ^ k * 2 ^ (32 - k)
theorem R_lt (k X : Nat) (hk : k ≤ 32) (hX : X < 4294967296) : R k X < 4294967296 := by
  have hp : 2 ^ k * 2 ^ (32 - k) = 4294967296 := by rw [← Nat.pow_add, show k + (32 - k) = 32 by omega]
  have h1 : X / 2 ^ k < 2 ^ (32 - k) := (Nat.div_lt_iff_lt_mul (Nat.two_pow_pos k)).2 (by rw [Nat.mul_comm, hp]; exact hX)
  have h2 : X % 2 ^ k + 1 ≤ 2 ^ k := Nat.mod_lt _ (Nat.two_pow_pos k)
  have h3 := Nat.mul_le_mul_right (2 ^ (32 - k)) h2
  rw [hp, Nat.add_mul] at h3
  unfold R
  omega
def rot1 (X : Nat) : Nat := X / 2 + X % 2 * 2147483648
theorem rot1_R (i X : Nat) (hi : i < 32) : rot1 (R i X) = R (i + 1) X := by
  have e : 2 ^ (32 - i) = 2 * 2 ^ (31 - i) := by rw [show 32 - i = (31 - i) + 1 by omega, Nat.pow_succ, Nat.mul_comm]
  have hp : 2 ^ i * 2 ^ (31 - i) = 2147483648 := by rw [← Nat.pow_add, show i + (31 - i) = 31 by omega]
  unfold rot1 R
  rw [e, show 32 - (i + 1) = 31 - i by omega, Nat.mod_pow_succ, show X / 2 ^ (i + 1) = X / 2 ^ i / 2 by rw [Nat.pow_succ, Nat.div_div_eq_div_mul]]
  generalize X / 2 ^ i = q
  generalize hr : X % 2 ^ i = r
  generalize 2 ^ (31 - i) = p at hp ⊢
  have h1 : r * (2 * p) = 2 * (r * p) := by rw [Nat.mul_left_comm]
  have h2 : 2 ^ i * (q % 2) * p = q % 2 * 2147483648 := by rw [Nat.mul_right_comm, hp, Nat.mul_comm]
  rw [h1, Nat.add_mul, h2]
  generalize r * p = z
  omega
def it : Nat → Nat → Nat
  | 0, X => X
  | n + 1, X => rot1 (it n X)
theorem it_R (X : Nat) : ∀ i, i ≤ 32 → it i X = R i X
  | 0, _ => by simp [it, R, Nat.mod_one]
  | i + 1, h => by rw [it, it_R X i (by omega), rot1_R i X (by omega)]
theorem it_add (a X : Nat) : ∀ b, it (a + b) X = it b (it a X)
  | 0 => rfl
  | b + 1 => by rw [← Nat.add_assoc, it, it_add a X b, it]
theorem it_32 (X : Nat) (hX : X < 4294967296) : it 32 X = X := by
  rw [it_R X 32 (by omega)]
  unfold R
  omega
theorem it_lt (X : Nat) (hX : X < 4294967296) (i : Nat) (hi : i ≤ 32) : it i X < 4294967296 := by rw [it_R X i hi]; exact R_lt i X hi hX
theorem it_mul (X : Nat) (hX : X < 4294967296) : ∀ m, it (32 * m) X = X
  | 0 => rfl
  | m + 1 => by rw [show 32 * (m + 1) = 32 * m + 32 by omega, it_add, it_mul X hX m, it_32 X hX]
theorem it_mod (X : Nat) (hX : X < 4294967296) (n : Nat) : it n X = it (n % 32) X := by
  rw [show n = 32 * (n / 32) + n % 32 by omega, it_add, it_mul X hX]
  congr 1
  omega
/-- Turned by any whole number. -/
def T (x n : Int) : Int := ((it (n % 32).toNat x.toNat : Nat) : Int)
theorem T_range (x n : Int) (h1 : x < 4294967296) : 0 ≤ T x n ∧ T x n < 4294967296 := by
  unfold T
  have := it_lt x.toNat (by omega) (n % 32).toNat (by omega)
  omega
theorem T_T (x m n : Int) (h1 : x < 4294967296) : T (T x m) n = T x (m + n) := by
  unfold T
  congr 1
  rw [Int.toNat_natCast, ← it_add, it_mod _ (by omega)]
  congr 1
  omega
theorem T_zero (x n : Int) (h0 : 0 ≤ x) (hn : n % 32 = 0) : T x n = x := by
  unfold T
  rw [hn]
  show ((x.toNat : Nat) : Int) = x
  omega
theorem rot_some (x n : Int) (h0 : 0 ≤ x) (h1 : x < 4294967296) : bits_Rot.f x n = some (T x n) := by
  have hw : IntKind.u64.wrap n = n % 18446744073709551616 := rfl
  have hk : Go.bits .and .u64 (IntKind.u64.wrap n) 31 = n % 32 := by
    rw [hw, show (31 : Int) = ((31 : Nat) : Int) from rfl, show n % 18446744073709551616 = (((n % 18446744073709551616).toNat : Nat) : Int) by omega, u64_and_nat _ _ (by omega) (by omega), nat_mask5]
    omega
  obtain ⟨k, hk32⟩ : ∃ k : Nat, n % 32 = (k : Int) := ⟨(n % 32).toNat, by omega⟩
  have hk31 : k < 32 := by omega
  obtain ⟨X, rfl⟩ := Int.eq_ofNat_of_zero_le h0
  have hX : X < 4294967296 := by omega
  unfold bits_Rot.f T
  rw [hk, hk32, show IntKind.u64.wrap (32 - (k : Int)) = ((32 - k : Nat) : Int) by show (32 - (k : Int)) % 18446744073709551616 = _; omega, if_pos (by omega), if_pos (by omega)]
  congr 1
  rw [Int.toNat_natCast, Int.toNat_natCast, it_R X k (by omega)]
  have hp : 2 ^ k * 2 ^ (32 - k) = 4294967296 := by rw [← Nat.pow_add, show k + (32 - k) = 32 by omega]
  have a1 : shr .u32 (X : Int) (k : Int) = ((X / 2 ^ k : Nat) : Int) := by
    unfold shr
    rw [Int.toNat_natCast, Nat.min_eq_left (by show k ≤ 32; omega), Int.natCast_ediv, Int.natCast_pow]
    rfl
  have a2 : shl .u32 (X : Int) ((32 - k : Nat) : Int) = ((X % 2 ^ k * 2 ^ (32 - k) : Nat) : Int) := by
    unfold shl
    rw [Int.toNat_natCast, Nat.min_eq_left (by show 32 - k ≤ 32; omega)]
    show ((X : Int) * 2 ^ (32 - k)) % 4294967296 = _
    rw [← Nat.mul_mod_mul_right, hp, Int.natCast_emod, Int.natCast_mul, Int.natCast_pow]
    rfl
  have h1' : X / 2 ^ k < 2 ^ (32 - k) := (Nat.div_lt_iff_lt_mul (Nat.two_pow_pos k)).2 (by rw [Nat.mul_comm, hp]; exact hX)
  have h2 : X % 2 ^ k + 1 ≤ 2 ^ k := Nat.mod_lt _ (Nat.two_pow_pos k)
  have h3 := Nat.mul_le_mul_right (2 ^ (32 - k)) h2
  rw [hp, Nat.add_mul] at h3
  have hq : 2 ^ (32 - k) ≤ 4294967296 := by rw [← hp]; exact Nat.le_mul_of_pos_left _ (Nat.two_pow_pos k)
  have hq0 := Nat.two_pow_pos (32 - k)
  rw [a1, a2, u32_or_nat _ _ (by omega) (by omega), Nat.or_comm, nat_join (32 - k) _ _ (Nat.mul_mod_left _ _) h1']
  unfold R
  omega
theorem rotRef_l0 (x : Int) (h0 : 0 ≤ x) (h1 : x < 4294967296) (n : Nat) (hn : n ≤ 32) (d : Nat) : ∀ (k i : Nat), n - i = d → i ≤ n → d < k →
    gatelineref01_Rot.l0 k ((it i x.toNat : Nat) : Int) (n : Int) (i : Int) = some ((it n x.toNat : Nat) : Int) := by
  induction d with
  | zero =>
    intro k i hd hi hk
    obtain ⟨k, rfl⟩ : ∃ m, k = m + 1 := ⟨k - 1, by omega⟩
    simp only [gatelineref01_Rot.l0]
    rw [if_neg (by omega), show i = n by omega]
  | succ d ih =>
    intro k i hd hi hk
    obtain ⟨k, rfl⟩ : ∃ m, k = m + 1 := ⟨k - 1, by omega⟩
    have e5 := w64_succ i (by omega)
    have hlt := it_lt x.toNat (by omega) i (by omega)
    have hs := ih k (i + 1) (by omega) (by omega) (by omega)
    have hit : it (i + 1) x.toNat = it i x.toNat / 2 + it i x.toNat % 2 * 2147483648 := rfl
    have q1 : Int.tmod ((it i x.toNat : Nat) : Int) 2 = ((it i x.toNat % 2 : Nat) : Int) := by rw [Int.tmod_eq_emod_of_nonneg (by omega)]; omega
    have q2 : Int.tdiv ((it i x.toNat : Nat) : Int) 2 = ((it i x.toNat / 2 : Nat) : Int) := by rw [Int.tdiv_eq_ediv_of_nonneg (by omega)]; omega
    simp only [gatelineref01_Rot.l0, e5, q1, q2]
    rw [if_pos (by omega)]
    by_cases hb : it i x.toNat % 2 = 1
    · rw [if_pos (by omega), show (((it i x.toNat / 2 : Nat) : Int) % 4294967296 + 2147483648) % 4294967296 = ((it (i + 1) x.toNat : Nat) : Int) by omega]
      exact hs
    · rw [if_neg (by omega), show ((it i x.toNat / 2 : Nat) : Int) % 4294967296 = ((it (i + 1) x.toNat : Nat) : Int) by omega]
      exact hs
theorem rotRef_ev (x n : Int) (h0 : 0 ≤ x) (h1 : x < 4294967296) : Ev (fun k => gatelineref01_Rot.f k x n) (T x n) := by
  refine ⟨100, fun k hk => ?_⟩
  obtain ⟨k, rfl⟩ : ∃ m, k = m + 1 := ⟨k - 1, by omega⟩
  have hm : Int.tmod n 32 = n % 32 ∨ (Int.tmod n 32 < 0 ∧ Int.tmod n 32 + 32 = n % 32) := by
    rcases Int.lt_or_le n 0 with h | h
    · have e : Int.tmod n 32 = -((-n) % 32) := by rw [← Int.tmod_eq_emod_of_nonneg (by omega), Int.neg_tmod]; omega
      omega
    · left; exact Int.tmod_eq_emod_of_nonneg h
  show gatelineref01_Rot.f (k + 1) x n = _
  unfold gatelineref01_Rot.f T
  have go := rotRef_l0 x h0 h1 (n % 32).toNat (by omega) (n % 32).toNat k 0 (by omega) (by omega) (by omega)
  have hx : ((it 0 x.toNat : Nat) : Int) = x := by show ((x.toNat : Nat) : Int) = x; omega
  rw [hx] at go
  rw [show (((n % 32).toNat : Nat) : Int) = n % 32 by omega] at go
  rcases hm with hm | ⟨hneg, hm⟩
  · rw [if_neg (by omega), hm]
    exact go
  · rw [if_pos hneg, hm, w64 (by omega) (by omega)]
    exact go
end Go.Proofs.Ytbakfengmehkkaa.Q
