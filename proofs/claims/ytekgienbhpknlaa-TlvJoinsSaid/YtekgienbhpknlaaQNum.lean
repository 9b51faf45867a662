/- Plain laws of layer 1, third part: numbers as bytes. -/
import Derived.Test.YtekgienbhpknlaaQByte
import Derived.Test.YtekgienbhpknlaaPLx3
import Derived.Test.YtekgienbhpknlaaPLx4
namespace Go.Proofs.Ytekgienbhpknlaa.Q
open Go Go.RowKit Go.Proofs.Ytekgienbhpknlaa.PL Go.Proofs.YtekgienbhpknlaaW.PrintWords Go.Proofs.YtekgienbhpknlaaW.PrintLast Go.Proofs.YtekgienbhpknlaaW.PrintMore

/-! ### bytes as a number -/
def val (l : List Int) : Int := l.foldl (fun a x => 256 * a + x) 0
theorem val_snoc (l : List Int) (x : Int) : val (l ++ [x]) = 256 * val l + x := by simp [val]
theorem val_take (l : List Int) (hl : IsBytes l) : ∀ n, n ≤ l.length → 0 ≤ val (l.take n) ∧ val (l.take n) < ((256 ^ n : Nat) : Int)
  | 0, _ => by simp [val]
  | n + 1, h => by
    have ih := val_take l hl n (by omega)
    have hx := hl.getD n
    rw [take_snoc l n (by omega), val_snoc, Nat.pow_succ]
    omega
theorem val_bound (l : List Int) (hl : IsBytes l) : 0 ≤ val l ∧ val l < ((256 ^ l.length : Nat) : Int) := by
  have := val_take l hl l.length (Nat.le_refl _)
  rwa [List.take_length] at this
theorem val_acc (l : List Int) : ∀ a : Int, l.foldl (fun a x => 256 * a + x) a = a * ((256 ^ l.length : Nat) : Int) + val l := by
  induction l with
  | nil => intro a; simp [val]
  | cons x l ih =>
    intro a
    have h1 := ih (256 * a + x)
    have h2 := ih (256 * 0 + x)
    have h3 : val (x :: l) = l.foldl (fun a x => 256 * a + x) (256 * 0 + x) := rfl
    rw [h3, List.foldl_cons, h1, h2, List.length_cons, Nat.pow_succ, Int.natCast_mul, Int.add_mul, Int.mul_comm 256 a, Int.mul_assoc]
    simp only [Int.mul_zero, Int.zero_add]
    rw [Int.mul_comm ((256 ^ l.length : Nat) : Int) ((256 : Nat) : Int), show ((256 : Nat) : Int) = 256 from rfl]
    omega
theorem val_cons (x : Int) (l : List Int) : val (x :: l) = x * ((256 ^ l.length : Nat) : Int) + val l := by
  have h := val_acc l (256 * 0 + x)
  have h3 : val (x :: l) = l.foldl (fun a x => 256 * a + x) (256 * 0 + x) := rfl
  rw [h3, h]
  simp
def getR (l : List Int) : Int × Int := if l.length > 8 then (0, 1) else if val l ≥ 9223372036854775808 then (0, 23) else (val l, 0)
theorem pow256_7 : (256 ^ 7 : Nat) = 72057594037927936 := rfl
theorem pow256_8 : (256 ^ 8 : Nat) = 18446744073709551616 := rfl
theorem get_l0 (l : List Int) (hl : IsBytes l) (h8 : l.length ≤ 8) (d : Nat) : ∀ (k i : Nat), l.length - i = d → i ≤ l.length → d < k →
    bits_Get.l0 k (val (l.take i)) l (l.length : Int) (i : Int) = if val l / 9223372036854775808 > 0 then some (0, 23) else some (wrap64 (val l), 0) := by
  induction d with
  | zero =>
    intro k i hd hi hk
    obtain ⟨k, rfl⟩ : ∃ m, k = m + 1 := ⟨k - 1, by omega⟩
    have c : ¬ (i : Int) < (l.length : Int) := by omega
    rw [bits_Get.l0, if_neg c, show i = l.length by omega, List.take_length]
  | succ d ih =>
    intro k i hd hi hk
    obtain ⟨k, rfl⟩ : ∃ m, k = m + 1 := ⟨k - 1, by omega⟩
    have c1 : (i : Int) < (l.length : Int) := by omega
    have c2 : (0 : Int) ≤ (i : Int) := by omega
    have hi1 : i ≤ 9223372036854775806 := by omega
    have hr : rd l (i : Int) = l.getD i 0 := by simp [rd]
    have hv := val_take l hl i (by omega)
    have hx := hl.getD i
    have hp : 256 ^ i ≤ 256 ^ 7 := Nat.pow_le_pow_right (by decide) (by omega)
    rw [pow256_7] at hp
    have hor : Go.bits .or .u64 (IntKind.u64.wrap (val (l.take i) * 256)) (IntKind.u64.wrap (l.getD i 0)) = val (l.take (i + 1)) := by
      rw [take_snoc l i (by omega), val_snoc]
      have e1 : IntKind.u64.wrap (val (l.take i) * 256) = val (l.take i) * 256 := by show (val (l.take i) * 256) % 18446744073709551616 = _; omega
      have e2 : IntKind.u64.wrap (l.getD i 0) = l.getD i 0 := by show (l.getD i 0) % 18446744073709551616 = _; omega
      rw [e1, e2, or_u64 8 256 (by decide) (by decide) (val (l.take i) * 256) (l.getD i 0) (by omega) (by omega) (by omega) (by omega) (by omega), Int.mul_comm]
    have := ih k (i + 1) (by omega) (by omega) (by omega)
    rw [bits_Get.l0, if_pos c1, if_pos c2, if_pos c1, hr, hor, w64_succ i hi1]
    exact this
theorem get_val (l : List Int) (hl : IsBytes l) (h8 : l.length ≤ 8) : (if val l / 9223372036854775808 > 0 then some ((0 : Int), (23 : Int)) else some (wrap64 (val l), 0)) = some (getR l) := by
  have hb := val_bound l hl
  unfold getR
  have c : ¬ l.length > 8 := by omega
  simp only [if_neg c]
  clear c
  by_cases h : val l ≥ 9223372036854775808
  · rw [if_pos (by omega), if_pos h]
  · rw [if_neg (by omega), if_neg h, w64 (by omega) (by omega)]
theorem get_ev (l : List Int) (hl : IsBytes l) : Ev (fun k => bits_Get.f k l) (getR l) := by
  refine ⟨10, fun k hk => ?_⟩
  show bits_Get.f k l = _
  unfold bits_Get.f
  by_cases h : l.length > 8
  · rw [if_pos (by omega)]
    unfold getR
    rw [if_pos h]
  · rw [if_neg (by omega)]
    have := get_l0 l hl (by omega) l.length k 0 (by omega) (by omega) (by omega)
    rw [← get_val l hl (by omega)]
    exact this

/-! ### a number as bytes -/
def be (n : Int) : Nat → List Int
  | 0 => []
  | s + 1 => (n / ((256 ^ s : Nat) : Int) % 256) :: be n s
theorem be_length (n : Int) : ∀ s, (be n s).length = s
  | 0 => rfl
  | s + 1 => by rw [be, List.length_cons, be_length n s]
theorem be_isBytes (n : Int) : ∀ s, IsBytes (be n s)
  | 0 => fun x hx => by cases hx
  | s + 1 => fun x hx => by
    rcases List.mem_cons.1 hx with rfl | hx
    · omega
    · exact be_isBytes n s x hx
theorem val_be (N : Nat) : ∀ s, val (be (N : Int) s) = ((N % 256 ^ s : Nat) : Int)
  | 0 => by simp [be, val, Nat.mod_one]
  | s + 1 => by
    have e : ((N : Int) / ((256 ^ s : Nat) : Int) % 256) = ((N / 256 ^ s % 256 : Nat) : Int) := by rw [Int.natCast_emod, Int.natCast_ediv]; rfl
    rw [be, val_cons, be_length, val_be N s, e, Nat.mod_pow_succ, ← Int.natCast_mul, ← Int.natCast_add, Nat.mul_comm, Nat.add_comm]
def putR (n size : Int) : List Int × Int :=
  if size < 0 ∨ size > 8 ∨ n < 0 then ([], 1) else if size < 8 ∧ n / ((256 ^ size.toNat : Nat) : Int) > 0 then ([], 23) else (be n size.toNat, 0)
theorem shr_lit (n c : Int) (j : Nat) (h : c = (j : Int)) (hj : j ≤ 64) : shr .i64 n c = n / ((2 ^ j : Nat) : Int) := by
  subst h
  unfold shr
  rw [Int.toNat_natCast, Nat.min_eq_left (by exact hj), Int.natCast_pow]
  rfl
theorem put_l0 (n : Int) (s : Nat) (hs : s ≤ 8) (d : Nat) : ∀ (k i : Nat) (x6 : List Int), s - i = d → i ≤ s → x6.length = s → (∀ j, s - i ≤ j → j < s → x6[j]? = some (n / ((256 ^ (s - 1 - j) : Nat) : Int) % 256)) → d < k →
    bits_Put.l0 k n (s : Int) x6 (s : Int) (i : Int) = some (be n s, 0) := by
  induction d with
  | zero =>
    intro k i x6 hd hi hx hw hk
    obtain ⟨k, rfl⟩ : ∃ m, k = m + 1 := ⟨k - 1, by omega⟩
    have c : ¬ (i : Int) < (s : Int) := by omega
    rw [bits_Put.l0, if_neg c]
    have hbe : ∀ s j, j < s → (be n s)[j]? = some (n / ((256 ^ (s - 1 - j) : Nat) : Int) % 256) := by
      intro s
      induction s with
      | zero => intro j hj; omega
      | succ s ihs =>
        intro j hj
        rw [be]
        cases j with
        | zero => simp
        | succ j =>
          rw [List.getElem?_cons_succ, ihs j (by omega), show s + 1 - 1 - (j + 1) = s - 1 - j by omega]
    have : x6 = be n s := by
      apply List.ext_getElem?
      intro j
      rcases Nat.lt_or_ge j s with hj | hj
      · rw [hw j (by omega) hj, hbe s j hj]
      · rw [List.getElem?_eq_none (by omega), List.getElem?_eq_none (by rw [be_length]; omega)]
    rw [this]
  | succ d ih =>
    intro k i x6 hd hi hx hw hk
    obtain ⟨k, rfl⟩ : ∃ m, k = m + 1 := ⟨k - 1, by omega⟩
    have c1 : (i : Int) < (s : Int) := by omega
    have c2 : (0 : Int) ≤ ((8 * i : Nat) : Int) := by omega
    have c3 : (0 : Int) ≤ ((s - 1 - i : Nat) : Int) := by omega
    have c4 : ((s - 1 - i : Nat) : Int) < (x6.length : Int) := by omega
    have e1 : IntKind.u64.wrap (8 * IntKind.u64.wrap (i : Int)) = ((8 * i : Nat) : Int) := by show (8 * ((i : Int) % 18446744073709551616)) % 18446744073709551616 = _; omega
    have e2 : wrap64 (wrap64 ((s : Int) - 1) - (i : Int)) = ((s - 1 - i : Nat) : Int) := by rw [w64 (x := (s : Int) - 1) (by omega) (by omega), w64 (by omega) (by omega)]; omega
    have e3 : shr .i64 n ((8 * i : Nat) : Int) % 256 = n / ((256 ^ i : Nat) : Int) % 256 := by rw [shr_lit n _ (8 * i) rfl (by omega), Nat.pow_mul]
    have hi1 : i ≤ 9223372036854775806 := by omega
    have := ih k (i + 1) (x6.set (s - 1 - i) (n / ((256 ^ i : Nat) : Int) % 256)) (by omega) (by omega) (by simp [hx]) (by
      clear e1 e2 e3
      intro j hj1 hj2
      rw [List.getElem?_set]
      by_cases h : s - 1 - i = j
      · rw [if_pos h, if_pos (by omega), show s - 1 - j = i by omega]
      · rw [if_neg h]
        exact hw j (by omega) hj2) (by omega)
    rw [bits_Put.l0, if_pos c1, e1, if_pos c2, e2, if_pos c3, if_pos c4, e3, Int.toNat_natCast, w64_succ i hi1]
    exact this
theorem put_j1 (n : Int) (s : Nat) (hs : s ≤ 8) (k : Nat) (hk : 10 ≤ k) : bits_Put.j1 k n (s : Int) = some (be n s, 0) := by
  obtain ⟨k, rfl⟩ : ∃ m, k = m + 1 := ⟨k - 1, by omega⟩
  have c1 : (0 : Int) ≤ (s : Int) := by omega
  have c2 : s ≤ 281474976710656 := by omega
  rw [bits_Put.j1, if_pos c1, Int.toNat_natCast, if_pos c2]
  exact put_l0 n s hs s k 0 _ (by omega) (by omega) (by simp) (fun j h1 h2 => by omega) (by omega)
theorem put_ev (n size : Int) : Ev (fun k => bits_Put.f k n size) (putR n size) := by
  refine ⟨12, fun k hk => ?_⟩
  show bits_Put.f k n size = _
  have jt : bits_Put.j0 k n size true = some ([], 1) := by
    obtain ⟨k, rfl⟩ : ∃ m, k = m + 1 := ⟨k - 1, by omega⟩
    rw [bits_Put.j0, if_pos rfl]
  unfold bits_Put.f putR
  by_cases c1 : size < 0
  · rw [if_pos c1, if_pos (by omega), jt]
  by_cases c2 : size > 8
  · rw [if_neg c1, if_pos c2, if_pos (by omega), jt]
  by_cases c3 : n < 0
  · rw [if_neg c1, if_neg c2, if_pos (by omega), decide_eq_true c3, jt]
  rw [if_neg c1, if_neg c2, if_neg (by omega), decide_eq_false c3]
  obtain ⟨k, rfl⟩ : ∃ m, k = m + 1 := ⟨k - 1, by omega⟩
  obtain ⟨s, rfl⟩ : ∃ s : Nat, size = (s : Int) := ⟨size.toNat, by omega⟩
  have hs : s ≤ 8 := by omega
  have d1 := put_j1 n s hs k (by omega)
  rw [bits_Put.j0, if_neg (by decide), d1, Int.toNat_natCast]
  by_cases c4 : (s : Int) < 8
  · have e1 : IntKind.u64.wrap (8 * IntKind.u64.wrap (s : Int)) = ((8 * s : Nat) : Int) := by show (8 * ((s : Int) % 18446744073709551616)) % 18446744073709551616 = _; omega
    have c5 : (0 : Int) ≤ ((8 * s : Nat) : Int) := by omega
    have e3 : shr .i64 n ((8 * s : Nat) : Int) = n / ((256 ^ s : Nat) : Int) := by rw [shr_lit n _ (8 * s) rfl (by omega), Nat.pow_mul]
    rw [if_pos c4, e1, if_pos c5, e3]
    by_cases c6 : n / ((256 ^ s : Nat) : Int) > 0
    · rw [if_pos c6, if_pos ⟨c4, c6⟩]
    · rw [if_neg c6, if_neg (fun h => c6 h.2)]
  · rw [if_neg c4, if_neg (fun h => c4 h.1)]
/-- What was put is got again. -/
theorem get_put (n size : Int) (hn : n ≤ 9223372036854775807) (h : (putR n size).2 = 0) : getR (putR n size).1 = (n, 0) ∧ ((putR n size).1.length : Int) = size ∧ IsBytes (putR n size).1 := by
  unfold putR at h ⊢
  by_cases c1 : size < 0 ∨ size > 8 ∨ n < 0
  · rw [if_pos c1] at h; cases h
  · rw [if_neg c1] at h ⊢
    by_cases c2 : size < 8 ∧ n / ((256 ^ size.toNat : Nat) : Int) > 0
    · rw [if_pos c2] at h; cases h
    · rw [if_neg c2]
      obtain ⟨s, rfl⟩ : ∃ s : Nat, size = (s : Int) := ⟨size.toNat, by omega⟩
      obtain ⟨N, rfl⟩ : ∃ N : Nat, n = (N : Int) := ⟨n.toNat, by omega⟩
      simp only [Int.toNat_natCast] at c2 ⊢
      have hlt : N < 256 ^ s := by
        by_cases h8 : s = 8
        · subst h8; rw [pow256_8]; omega
        · have h9 : ¬ ((N : Int) / ((256 ^ s : Nat) : Int) > 0) := fun z => c2 ⟨by omega, z⟩
          rcases Nat.lt_or_ge N (256 ^ s) with hz | hz
          · exact hz
          · exfalso
            apply h9
            rw [← Int.natCast_ediv]
            have := Nat.div_pos hz (Nat.pow_pos (by decide))
            omega
      refine ⟨?_, by rw [be_length], be_isBytes _ _⟩
      unfold getR
      rw [be_length, if_neg (by omega), val_be, Nat.mod_eq_of_lt hlt, if_neg (by omega)]
end Go.Proofs.Ytekgienbhpknlaa.Q
