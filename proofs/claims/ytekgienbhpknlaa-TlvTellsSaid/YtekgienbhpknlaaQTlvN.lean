/- Plain laws of layer 17, third part: numbers as bytes without leading zeros. -/
import Derived.Test.YtekgienbhpknlaaQTlvB
import Derived.Test.YtekgienbhpknlaaPLx4
import Derived.Test.YtekgienbhpknlaaPLx5
namespace Go.Proofs.Ytekgienbhpknlaa.Q
open Go Go.RowKit Go.Proofs.Ytekgienbhpknlaa.PL Go.Proofs.YtekgienbhpknlaaW.PrintWords Go.Proofs.YtekgienbhpknlaaW.PrintLast Go.Proofs.YtekgienbhpknlaaW.PrintMore
def strip : List Int → List Int
  | [] => []
  | x :: l => if x = 0 then strip l else x :: l
theorem strip_length : ∀ l, (strip l).length ≤ l.length
  | [] => by simp [strip]
  | x :: l => by
    have := strip_length l
    unfold strip
    split
    · rw [List.length_cons]; omega
    · exact Nat.le_refl _
theorem strip_head : ∀ l, strip l = [] ∨ ∃ x t, strip l = x :: t ∧ x ≠ 0
  | [] => .inl rfl
  | x :: l => by
    unfold strip
    split
    · exact strip_head l
    · rename_i h
      exact .inr ⟨x, l, rfl, h⟩
theorem strip_bytes : ∀ l, IsBytes l → IsBytes (strip l)
  | [], h => h
  | x :: l, h => by
    unfold strip
    split
    · exact strip_bytes l (fun y hy => h y (by simp [hy]))
    · exact h
theorem strip_val : ∀ l, val (strip l) = val l
  | [] => rfl
  | x :: l => by
    unfold strip
    split
    · rename_i h
      rw [strip_val l, val_cons, h]
      simp
    · rfl
theorem number_l0 (l : List Int) : ∀ k, l.length < k → tlv_Number.l0 k l = some (strip l, 0) := by
  induction l with
  | nil =>
    intro k hk
    obtain ⟨k, rfl⟩ : ∃ m, k = m + 1 := ⟨k - 1, by omega⟩
    rw [tlv_Number.l0, if_neg (by simp)]
    rfl
  | cons x l ih =>
    intro k hk
    rw [List.length_cons] at hk
    obtain ⟨k, rfl⟩ : ∃ m, k = m + 1 := ⟨k - 1, by omega⟩
    have hr : rd (x :: l) 0 = x := rfl
    have c1 : ((x :: l).length : Int) > 0 := by rw [List.length_cons]; omega
    have c2 : 0 < ((x :: l).length : Int) := c1
    have c3 : 1 ≤ ((x :: l).length : Int) := by rw [List.length_cons]; omega
    rw [tlv_Number.l0, if_pos c1, if_pos c2, hr, strip]
    by_cases h : x = 0
    · rw [if_pos h, if_pos h, if_pos c3]
      exact ih k (by omega)
    · rw [if_neg h, if_neg h]
def numR (n : Int) : List Int × Int := if n < 0 then ([], 1) else (strip (be n 8), 0)
theorem number_ev (n : Int) : Ev (fun k => tlv_Number.f k n) (numR n) := by
  obtain ⟨K, hK⟩ := put_ev n 8
  refine ⟨K + 9, fun k hk => ?_⟩
  have hp : bits_Put.f k n 8 = some (putR n 8) := hK k (by omega)
  show tlv_Number.f k n = _
  unfold tlv_Number.f numR
  rw [hp, Option.bind_some]
  by_cases h : n < 0
  · have e : putR n 8 = ([], 1) := by unfold putR; exact if_pos (.inr (.inr h))
    rw [e, if_pos h]
    exact if_neg (by decide)
  · have e : putR n 8 = (be n 8, 0) := by
      unfold putR
      rw [if_neg (by omega), if_neg (by omega)]
      rfl
    rw [e, if_neg h, if_pos rfl]
    exact number_l0 _ k (by rw [be_length]; omega)
theorem be_snoc (N : Nat) : ∀ s, be (N : Int) (s + 1) = be ((N / 256 : Nat) : Int) s ++ [((N % 256 : Nat) : Int)]
  | 0 => by
    simp only [be, List.nil_append]
    congr 1
    omega
  | s + 1 => by
    rw [be, be_snoc N s, be]
    have e : (N : Int) / ((256 ^ (s + 1) : Nat) : Int) % 256 = ((N / 256 : Nat) : Int) / ((256 ^ s : Nat) : Int) % 256 := by
      rw [Nat.pow_succ, Nat.mul_comm, ← Int.natCast_ediv, ← Int.natCast_ediv, Nat.div_div_eq_div_mul]
    rw [e]
    rfl
def digs : Nat → Nat → List Int
  | 0, _ => []
  | s + 1, N => if N = 0 then [] else digs s (N / 256) ++ [((N % 256 : Nat) : Int)]
theorem digs_length : ∀ s N, (digs s N).length ≤ s
  | 0, _ => by simp [digs]
  | s + 1, N => by
    unfold digs
    split
    · simp
    · have := digs_length s (N / 256)
      simp only [List.length_append, List.length_cons, List.length_nil]
      omega
theorem strip_append (a b : List Int) : strip (a ++ b) = if strip a = [] then strip b else strip a ++ b := by
  induction a with
  | nil => simp [strip]
  | cons x a ih =>
    rw [List.cons_append, strip, strip]
    by_cases h : x = 0
    · rw [if_pos h, if_pos h, ih]
    · rw [if_neg h, if_neg h, if_neg (by simp)]
      rfl
theorem strip_be : ∀ (s N : Nat), N < 256 ^ s → strip (be (N : Int) s) = digs s N
  | 0, N, _ => rfl
  | s + 1, N, h => by
    rw [be_snoc, strip_append, strip_be s (N / 256) (by rw [Nat.pow_succ] at h; omega), digs]
    by_cases h0 : N = 0
    · subst h0
      have : digs s 0 = [] := by cases s <;> simp [digs]
      simp [this, strip]
    · rw [if_neg h0]
      by_cases h1 : digs s (N / 256) = []
      · rw [if_pos h1, h1]
        have : N / 256 = 0 := by
          cases s with
          | zero => rw [Nat.pow_succ, Nat.pow_zero] at h; omega
          | succ s =>
            rw [digs] at h1
            by_cases h2 : N / 256 = 0
            · exact h2
            · rw [if_neg h2] at h1
              simp at h1
        rw [strip, if_neg (by omega)]
        rfl
      · rw [if_neg h1]
theorem refNumber_l0 (s : Nat) : ∀ (k N : Nat) (acc : List Int), s ≤ 8 → N < 256 ^ s → N ≤ 9223372036854775807 → s < k → acc.length ≤ 8 - s →
    gatelineref17_Number.l0 k (N : Int) acc = some (digs s N ++ acc, 0) := by
  induction s with
  | zero =>
    intro k N acc _ hN _ hk _
    obtain ⟨k, rfl⟩ : ∃ m, k = m + 1 := ⟨k - 1, by omega⟩
    rw [Nat.pow_zero] at hN
    rw [gatelineref17_Number.l0, if_neg (by omega)]
    rfl
  | succ s ih =>
    intro k N acc hs hN hM hk ha
    obtain ⟨k, rfl⟩ : ∃ m, k = m + 1 := ⟨k - 1, by omega⟩
    rw [gatelineref17_Number.l0, digs]
    by_cases h : N = 0
    · subst h
      rw [if_neg (by omega), if_pos rfl]
      rfl
    · have e := ih k (N / 256) ([((N % 256 : Nat) : Int)] ++ acc) (by omega) (by rw [Nat.pow_succ] at hN; omega) (by omega) (by omega) (by simp only [List.length_append, List.length_cons, List.length_nil]; omega)
      have c : 1 + acc.length < 140737488355328 := by omega
      have hN0 : (N : Int) > 0 := by omega
      have e1 : Int.tmod (N : Int) 256 % 256 = ((N % 256 : Nat) : Int) := by rw [Int.tmod_eq_emod_of_nonneg (by omega)]; omega
      have e2 : wrap64 (Int.tdiv (N : Int) 256) = ((N / 256 : Nat) : Int) := by rw [Int.tdiv_eq_ediv_of_nonneg (by omega), w64 (by omega) (by omega)]; omega
      rw [if_pos hN0, if_neg h, Option.bind_some, List.length_cons, List.length_nil, Nat.zero_add, if_pos c, e1, e2, e, List.append_assoc]
theorem lt_pow8 (N : Nat) (h : N ≤ 9223372036854775807) : N < 256 ^ 8 := by rw [pow256_8]; omega
theorem refNumber_ev (n : Int) (hn : n ≤ 9223372036854775807) : Ev (fun k => gatelineref17_Number.f k n) (numR n) := by
  refine ⟨9, fun k hk => ?_⟩
  show gatelineref17_Number.f k n = _
  unfold gatelineref17_Number.f numR
  by_cases h : n < 0
  · rw [if_pos h, if_pos h]
  · rw [if_neg h, if_neg h]
    obtain ⟨N, rfl⟩ : ∃ N : Nat, n = (N : Int) := ⟨n.toNat, by omega⟩
    rw [refNumber_l0 8 k N [] (by omega) (lt_pow8 N (by omega)) (by omega) (by omega) (by simp), List.append_nil, strip_be 8 N (lt_pow8 N (by omega))]
theorem numR_length (n : Int) : (numR n).1.length ≤ 8 := by
  unfold numR
  split
  · simp
  · have := strip_length (be n 8)
    rw [be_length] at this
    exact this
theorem numR_bytes (n : Int) : IsBytes (numR n).1 := by
  unfold numR
  split
  · exact fun x hx => by cases hx
  · exact strip_bytes _ (be_isBytes n 8)
def valR (l : List Int) : Int × Int := if l.length < 1 ∨ l.length > 7 ∨ l.getD 0 0 = 0 then (0, 14) else (val l, 0)
theorem getR_small (l : List Int) (hl : IsBytes l) (h : l.length ≤ 7) : getR l = (val l, 0) := by
  have hb := val_bound l hl
  have hp : 256 ^ l.length ≤ 256 ^ 7 := Nat.pow_le_pow_right (by decide) h
  rw [pow256_7] at hp
  unfold getR
  rw [if_neg (by omega), if_neg (by omega)]
theorem value_gen {g : Nat → Option (Int × Int)} (l : List Int) (hl : IsBytes l) (hg : Ev g (getR l)) : Ev (fun k => if (l.length : Int) < 1 then (some ((0 : Int), (14 : Int))) else (if (l.length : Int) > 7 then (some (0, 14)) else (if 0 < (l.length : Int) then (if (rd l 0) = 0 then (some (0, 14)) else ((g k).bind fun bt => (some (bt.1, bt.2)))) else (none)))) (valR l) := by
  obtain ⟨K, hK⟩ := hg
  refine ⟨K, fun k hk => ?_⟩
  have e0 : rd l 0 = l.getD 0 0 := rd0 l 0
  unfold valR
  simp only [hK k hk, e0, Option.bind_some]
  by_cases h1 : l.length < 1
  · rw [if_pos (by omega), if_pos (.inl h1)]
  · rw [if_neg (by omega)]
    by_cases h2 : l.length > 7
    · rw [if_pos (by omega), if_pos (.inr (.inl h2))]
    · rw [if_neg (by omega), if_pos (by omega)]
      by_cases h3 : l.getD 0 0 = 0
      · rw [if_pos h3, if_pos (.inr (.inr h3))]
      · rw [if_neg h3, if_neg (by omega), getR_small l hl (by omega)]
theorem value_ev (l : List Int) (hl : IsBytes l) : Ev (fun k => tlv_Value.f k l) (valR l) := value_gen l hl (get_ev l hl)
theorem refValue_ev (l : List Int) (hl : IsBytes l) : Ev (fun k => gatelineref17_Value.f k l) (valR l) := value_gen l hl (refGet_ev l hl)
/-- A number but 0 that has at most seven bytes is told again. -/
theorem val_num (n : Int) (h0 : 0 < n) (hn : n ≤ 9223372036854775807) (hl : (numR n).1.length ≤ 7) : valR (numR n).1 = (n, 0) := by
  obtain ⟨N, rfl⟩ : ∃ N : Nat, n = (N : Int) := ⟨n.toNat, by omega⟩
  have hv : val (numR (N : Int)).1 = (N : Int) := by
    unfold numR
    rw [if_neg (by omega)]
    show val (strip _) = _
    rw [strip_val, val_be, Nat.mod_eq_of_lt (lt_pow8 N (by omega))]
  have hh : (numR (N : Int)).1 = [] ∨ ∃ x t, (numR (N : Int)).1 = x :: t ∧ x ≠ 0 := by
    unfold numR
    rw [if_neg (by omega)]
    exact strip_head _
  rcases hh with h | ⟨x, t, h, hx⟩
  · rw [h] at hv
    simp [val] at hv
    omega
  · unfold valR
    rw [if_neg, hv]
    rintro (h1 | h1 | h1)
    · rw [h] at h1; simp at h1
    · omega
    · rw [h] at h1; exact hx h1
theorem be_val : ∀ (s : Nat) (l : List Int), l.length = s → IsBytes l → be (val l) s = l
  | 0, l, hl, _ => by rw [List.eq_nil_of_length_eq_zero hl]; rfl
  | s + 1, l, hl, hB => by
    obtain ⟨a, x, rfl⟩ : ∃ a x, l = a ++ [x] := ⟨l.dropLast, l.getLast (by intro h; subst h; simp at hl), (List.dropLast_concat_getLast _).symm⟩
    have ha : IsBytes a := fun y hy => hB y (by simp [hy])
    have hx := hB x (by simp)
    have hb := val_bound a ha
    have e := be_val s a (by simpa using hl) ha
    rw [val_snoc]
    obtain ⟨V, hV⟩ : ∃ V : Nat, val a = (V : Int) := ⟨(val a).toNat, by omega⟩
    obtain ⟨X, rfl⟩ : ∃ X : Nat, x = (X : Int) := ⟨x.toNat, by omega⟩
    rw [hV] at e ⊢
    have := be_snoc (256 * V + X) s
    rw [show ((256 * V + X : Nat) : Int) = 256 * (V : Int) + (X : Int) by omega] at this
    rw [this, show (256 * V + X) / 256 = V by omega, show (256 * V + X) % 256 = X by omega, e]
theorem strip_be_more (V : Nat) (s : Nat) (hV : V < 256 ^ s) : ∀ d, strip (be (V : Int) (s + d)) = strip (be (V : Int) s)
  | 0 => rfl
  | d + 1 => by
    have hp : 256 ^ s ≤ 256 ^ (s + d) := Nat.pow_le_pow_right (by decide) (by omega)
    rw [show s + (d + 1) = (s + d) + 1 by omega, be, show (V : Int) / ((256 ^ (s + d) : Nat) : Int) % 256 = 0 by rw [← Int.natCast_ediv, Nat.div_eq_of_lt (by omega)]; rfl, strip, if_pos rfl]
    exact strip_be_more V s hV d
/-- Bytes that are a number are its bytes. -/
theorem num_val (l : List Int) (hl : IsBytes l) (h : (valR l).2 = 0) : 0 < (valR l).1 ∧ (valR l).1 ≤ 9223372036854775807 ∧ numR (valR l).1 = (l, 0) := by
  unfold valR at h ⊢
  split at h
  · exact absurd h (by decide)
  · rename_i hc
    rw [if_neg hc]
    show 0 < val l ∧ val l ≤ _ ∧ numR (val l) = (l, 0)
    have hb := val_bound l hl
    have hp : 256 ^ l.length ≤ 256 ^ 7 := Nat.pow_le_pow_right (by decide) (by omega)
    rw [pow256_7] at hp
    obtain ⟨x, t, rfl⟩ : ∃ x t, l = x :: t := by
      cases l with
      | nil => exact absurd (.inl (by simp)) hc
      | cons x t => exact ⟨x, t, rfl⟩
    have hx : x ≠ 0 := fun e => hc (.inr (.inr e))
    have hx2 := hl x (by simp)
    have ht := val_bound t (fun y hy => hl y (by simp [hy]))
    have hpos : 0 < val (x :: t) := by
      rw [val_cons]
      have := Nat.pow_pos (n := t.length) (show 0 < 256 by decide)
      have h2 : 0 < x * ((256 ^ t.length : Nat) : Int) := Int.mul_pos (by omega) (by omega)
      omega
    refine ⟨hpos, by omega, ?_⟩
    unfold numR
    rw [if_neg (by omega)]
    obtain ⟨V, hV⟩ : ∃ V : Nat, val (x :: t) = (V : Int) := ⟨(val (x :: t)).toNat, by omega⟩
    have h8 := strip_be_more V (x :: t).length (by omega) (8 - (x :: t).length)
    rw [show (x :: t).length + (8 - (x :: t).length) = 8 by omega] at h8
    rw [hV, h8, ← hV, be_val _ (x :: t) rfl hl, strip, if_neg hx]
end Go.Proofs.Ytekgienbhpknlaa.Q
