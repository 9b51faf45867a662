/- Plain laws of bytes and whole numbers. -/
import Derived.Laws.BitsAllLaws
import Derived.Test.YtekgienbhpknlaaPLx3
namespace Go.Proofs.Ytekgienbhpknlaa.Q
open Go Go.RowKit Go.Proofs.Ytekgienbhpknlaa.PL Go.Proofs.YtekgienbhpknlaaW.PrintWords Go.Proofs.YtekgienbhpknlaaW.PrintLast Go.Proofs.YtekgienbhpknlaaW.PrintMore

theorem w64 {x : Int} (h0 : -9223372036854775808 ≤ x) (h1 : x ≤ 9223372036854775807) : wrap64 x = x := by
  unfold wrap64
  omega
theorem w64_succ (i : Nat) (h : i ≤ 9223372036854775806) : wrap64 ((i : Int) + 1) = ((i + 1 : Nat) : Int) := by rw [w64 (by omega) (by omega)]; omega
theorem w64_four (i : Nat) (h : i ≤ 1000000000000000000) : wrap64 (4 * (i : Int)) = ((4 * i : Nat) : Int) := by rw [w64 (by omega) (by omega)]; omega
theorem w64_plus (i c : Nat) (h : i + c ≤ 9223372036854775807) : wrap64 ((i : Int) + (c : Int)) = ((i + c : Nat) : Int) := by rw [w64 (by omega) (by omega)]; omega
theorem ev_of {α : Type} {g : Nat → Option α} {r : α} (K : Nat) (h : ∀ k, K ≤ k → g k = some r) : Ev g r := ⟨K, h⟩
theorem ev_ite {α : Type} {c : Prop} [Decidable c] {g f : Nat → Option α} {r : α} (h1 : c → Ev g r) (h2 : ¬ c → Ev f r) : Ev (fun k => if c then g k else f k) r := by
  by_cases h : c
  · obtain ⟨K, hK⟩ := h1 h
    exact ⟨K, fun k hk => by simp only [if_pos h]; exact hK k hk⟩
  · obtain ⟨K, hK⟩ := h2 h
    exact ⟨K, fun k hk => by simp only [if_neg h]; exact hK k hk⟩
theorem ev_unique {α : Type} {g : Nat → Option α} {r q : α} (h : Ev g r) (h' : Ev g q) : r = q := by
  obtain ⟨K, h⟩ := h
  obtain ⟨K', h'⟩ := h'
  have a := h (max K K') (by omega)
  have b := h' (max K K') (by omega)
  rw [a] at b
  exact Option.some.inj b

/-! ### rows that are the same -/
theorem same_gen {L : Nat → List Int → List Int → Int → Option Bool}
    (hL : ∀ k x0 x1 x5, L (k + 1) x0 x1 x5 = if x5 < (x0.length : Int) then (if 0 ≤ x5 then (if x5 < (x1.length : Int) then (if rd x0 x5 = rd x1 x5 then L k x0 x1 (wrap64 (x5 + 1)) else some false) else none) else none) else some true)
    (a b : List Int) (hab : a.length = b.length) (hlen : a.length ≤ 9223372036854775806) (d : Nat) :
    ∀ (k i : Nat), a.length - i = d → i ≤ a.length → d < k → L k a b (i : Int) = some (decide (a.drop i = b.drop i)) := by
  induction d with
  | zero =>
    intro k i hd hi hk
    obtain ⟨k, rfl⟩ : ∃ m, k = m + 1 := ⟨k - 1, by omega⟩
    have : i = a.length := by omega
    subst this
    rw [hL, if_neg (by omega)]
    simp [hab]
  | succ d ih =>
    intro k i hd hi hk
    obtain ⟨k, rfl⟩ : ∃ m, k = m + 1 := ⟨k - 1, by omega⟩
    have hlt : i < a.length := by omega
    have hlt' : i < b.length := by omega
    rw [hL, if_pos (by omega), if_pos (by omega), if_pos (by omega)]
    rw [List.drop_eq_getElem_cons hlt, List.drop_eq_getElem_cons hlt']
    have ha : rd a (i : Int) = a[i] := by simp [rd, hlt]
    have hb : rd b (i : Int) = b[i] := by simp [rd, hlt']
    rw [ha, hb]
    by_cases h : a[i] = b[i]
    · rw [if_pos h, w64 (by omega) (by omega), show ((i : Int) + 1) = ((i + 1 : Nat) : Int) by omega, ih k (i + 1) (by omega) (by omega) (by omega)]
      simp only [List.cons.injEq, h, true_and]
    · rw [if_neg h]
      simp only [List.cons.injEq, h, false_and, decide_false]
theorem same_ev (a b : List Int) (hl : a.length ≤ 9223372036854775806) : Ev (fun k => gatelineref01_Same.f k a b) (decide (a = b)) := by
  refine ⟨a.length + 1, fun k hk => ?_⟩
  show gatelineref01_Same.f k a b = _
  unfold gatelineref01_Same.f
  by_cases h : a.length = b.length
  · rw [if_pos (by omega)]
    have := same_gen (L := gatelineref01_Same.l0) (fun _ _ _ _ => rfl) a b h hl a.length k 0 (by omega) (by omega) (by omega)
    simpa using this
  · rw [if_neg (by omega)]
    congr 1
    exact (decide_eq_false (fun e => h (by rw [e]))).symm
theorem same_true (a : List Int) (hl : a.length ≤ 9223372036854775806) : Ev (fun k => gatelineref01_Same.f k a a) true := by
  have := same_ev a a hl
  simpa using this

def IsBytes (b : List Int) : Prop := ∀ x ∈ b, 0 ≤ x ∧ x ≤ 255
def IsWords (b : List Int) : Prop := ∀ x ∈ b, 0 ≤ x ∧ x < 4294967296
theorem isBytes_of {b : List Int} (h : ∀ x ∈ b, (Lit.int .u8 x).wf = true) : IsBytes b := fun x hx => by
  have := h x hx
  have h1 : IntKind.u8.min = 0 := rfl
  have h2 : IntKind.u8.max = 255 := rfl
  simp only [Lit.wf, Bool.and_eq_true, decide_eq_true_eq] at this
  omega
theorem isWords_of {b : List Int} (h : ∀ x ∈ b, (Lit.int .u32 x).wf = true) : IsWords b := fun x hx => by
  have := h x hx
  have h1 : IntKind.u32.min = 0 := rfl
  have h2 : IntKind.u32.max = 4294967295 := rfl
  simp only [Lit.wf, Bool.and_eq_true, decide_eq_true_eq] at this
  omega
theorem i64_of {x : Int} (h : (Lit.int .i64 x).wf = true) : -9223372036854775808 ≤ x ∧ x ≤ 9223372036854775807 := by
  have h1 : IntKind.i64.min = -9223372036854775808 := rfl
  have h2 : IntKind.i64.max = 9223372036854775807 := rfl
  simp only [Lit.wf, Bool.and_eq_true, decide_eq_true_eq] at h
  omega
theorem u32_of {x : Int} (h : (Lit.int .u32 x).wf = true) : 0 ≤ x ∧ x < 4294967296 := by
  have h1 : IntKind.u32.min = 0 := rfl
  have h2 : IntKind.u32.max = 4294967295 := rfl
  simp only [Lit.wf, Bool.and_eq_true, decide_eq_true_eq] at h
  omega
theorem IsBytes.getD {b : List Int} (h : IsBytes b) (i : Nat) : 0 ≤ b.getD i 0 ∧ b.getD i 0 ≤ 255 := by
  rw [List.getD_eq_getElem?_getD]
  rcases Nat.lt_or_ge i b.length with hi | hi
  · rw [List.getElem?_eq_getElem hi]
    exact h _ (List.getElem_mem hi)
  · rw [List.getElem?_eq_none hi]
    simp
theorem IsWords.getD {b : List Int} (h : IsWords b) (i : Nat) : 0 ≤ b.getD i 0 ∧ b.getD i 0 < 4294967296 := by
  rw [List.getD_eq_getElem?_getD]
  rcases Nat.lt_or_ge i b.length with hi | hi
  · rw [List.getElem?_eq_getElem hi]
    exact h _ (List.getElem_mem hi)
  · rw [List.getElem?_eq_none hi]
    simp

/-! ### or -/
theorem or_u32 (i p : Nat) (hp : 2 ^ i = p) (hpl : p ≤ 4294967296) (x y : Int) (h0 : 0 ≤ x) (h1 : x < 4294967296) (hx : x % (p : Int) = 0) (hy0 : 0 ≤ y) (hy : y < p) : Go.bits .or .u32 x y = x + y := by
  obtain ⟨X, rfl⟩ := Int.eq_ofNat_of_zero_le h0
  obtain ⟨Y, rfl⟩ := Int.eq_ofNat_of_zero_le hy0
  rw [u32_or_nat X Y (by omega) (by omega), nat_join i X Y (by rw [hp]; omega) (by rw [hp]; omega)]
  omega
theorem or_u64 (i p : Nat) (hp : 2 ^ i = p) (hpl : p ≤ 18446744073709551616) (x y : Int) (h0 : 0 ≤ x) (h1 : x < 18446744073709551616) (hx : x % (p : Int) = 0) (hy0 : 0 ≤ y) (hy : y < p) : Go.bits .or .u64 x y = x + y := by
  obtain ⟨X, rfl⟩ := Int.eq_ofNat_of_zero_le h0
  obtain ⟨Y, rfl⟩ := Int.eq_ofNat_of_zero_le hy0
  rw [u64_or_nat X Y (by omega) (by omega), nat_join i X Y (by rw [hp]; omega) (by rw [hp]; omega)]
  omega
theorem or4 (a b c d : Int) (ha : 0 ≤ a ∧ a ≤ 255) (hb : 0 ≤ b ∧ b ≤ 255) (hc : 0 ≤ c ∧ c ≤ 255) (hd : 0 ≤ d ∧ d ≤ 255) :
    Go.bits .or .u32 (Go.bits .or .u32 (Go.bits .or .u32 (((a % 4294967296) * 16777216) % 4294967296) (((b % 4294967296) * 65536) % 4294967296)) (((c % 4294967296) * 256) % 4294967296)) (d % 4294967296) = a * 16777216 + b * 65536 + c * 256 + d := by
  rw [or_u32 24 16777216 (by decide) (by decide) (((a % 4294967296) * 16777216) % 4294967296) _ (by omega) (by omega) (by omega) (by omega) (by omega)]
  rw [or_u32 16 65536 (by decide) (by decide) _ (((c % 4294967296) * 256) % 4294967296) (by omega) (by omega) (by omega) (by omega) (by omega)]
  rw [or_u32 8 256 (by decide) (by decide) _ (d % 4294967296) (by omega) (by omega) (by omega) (by omega) (by omega)]
  omega

theorem take_snoc (w : List Int) (i : Nat) (h : i < w.length) : w.take (i + 1) = w.take i ++ [w.getD i 0] := by
  rw [List.take_succ_eq_append_getElem h, List.getD_eq_getElem?_getD, List.getElem?_eq_getElem h]
  rfl
end Go.Proofs.Ytekgienbhpknlaa.Q
