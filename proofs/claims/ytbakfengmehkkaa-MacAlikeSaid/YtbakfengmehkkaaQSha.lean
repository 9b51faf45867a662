/- Plain laws of layer 2: what the reference's helpers compute, told by the program's operations on bits. -/
import Derived.Test.YtbakfengmehkkaaQBits
import Derived.Test.YtbakfengmehkkaaGBlock
import Derived.OpenShut
import Derived.Test.YtbakfengmehkkaaPLyB
namespace Go.Proofs.Ytbakfengmehkkaa.Q
open Go Go.RowKit Go.Proofs.Ytbakfengmehkkaa.PL Go.Proofs.Ytbakfengmehkkaa.G Go.Proofs.YtbakfengmehkkaaW.PrintWords Go.Proofs.YtbakfengmehkkaaW.PrintLast Go.Proofs.YtbakfengmehkkaaW.PrintMore
def InRot (n : Int) : Prop := n = 2 ∨ n = 6 ∨ n = 7 ∨ n = 11 ∨ n = 13 ∨ n = 17 ∨ n = 18 ∨ n = 19 ∨ n = 22 ∨ n = 25
theorem rotB_T (x n : Int) (h0 : 0 ≤ x) (h1 : x < 4294967296) (h : InRot n) : rotB x n = T x n := by
  have e1 : Go.bits .and .u64 (IntKind.u64.wrap n) 31 = n := by
    rcases h with rfl | rfl | rfl | rfl | rfl | rfl | rfl | rfl | rfl | rfl <;> decide +kernel
  have e2 : IntKind.u64.wrap (32 - n) = 32 - n := by
    rcases h with rfl | rfl | rfl | rfl | rfl | rfl | rfl | rfl | rfl | rfl <;> decide +kernel
  have hn : 0 ≤ n ∧ n ≤ 31 := by unfold InRot at h; omega
  have hs := rot_some x n h0 h1
  unfold bits_Rot.f at hs
  rw [e1, e2, if_pos hn.1, if_pos (by omega)] at hs
  exact Option.some.inj hs
theorem rotRef (x n : Int) (h0 : 0 ≤ x) (h1 : x < 4294967296) (h : InRot n) : Ev (fun k => gatelineref01_Rot.f k x n) (rotB x n) := by
  rw [rotB_T x n h0 h1 h]
  exact rotRef_ev x n h0 h1
theorem two_ev (x i j c : Int) (h0 : 0 ≤ x) (h1 : x < 4294967296) (hi : InRot i) (hj : InRot j) (hc : 0 < c) : Ev (fun k => gatelineref02_two.f k x i j c) (sg x i j c) := by
  obtain ⟨K1, e1⟩ := rotRef x i h0 h1 hi
  obtain ⟨K2, e2⟩ := rotRef x j h0 h1 hj
  have hd : Int.tdiv x c = x / c := Int.tdiv_eq_ediv_of_nonneg h0
  have hq0 : 0 ≤ x / c := Int.ediv_nonneg h0 (by omega)
  have hq1 : x / c ≤ x := Int.ediv_le_self _ h0
  replace e1 : ∀ k, K1 ≤ k → gatelineref01_Rot.f k x i = some (rotB x i) := e1
  replace e2 : ∀ k, K2 ≤ k → gatelineref01_Rot.f k x j = some (rotB x j) := e2
  refine ⟨K1 + K2, fun k hk => ?_⟩
  show gatelineref02_two.f k x i j c = _
  unfold gatelineref02_two.f
  rw [e1 k (by omega), Option.bind_some, e2 k (by omega), Option.bind_some, if_neg (by omega), hd, Int.emod_eq_of_lt hq0 (by omega)]
  rfl
theorem three_ev (x a b c : Int) (h0 : 0 ≤ x) (h1 : x < 4294967296) (ha : InRot a) (hb : InRot b) (hc : InRot c) : Ev (fun k => gatelineref02_three.f k x a b c) (r3 x a b c) := by
  obtain ⟨K1, e1⟩ := rotRef x a h0 h1 ha
  obtain ⟨K2, e2⟩ := rotRef x b h0 h1 hb
  obtain ⟨K3, e3⟩ := rotRef x c h0 h1 hc
  replace e1 : ∀ k, K1 ≤ k → gatelineref01_Rot.f k x a = some (rotB x a) := e1
  replace e2 : ∀ k, K2 ≤ k → gatelineref01_Rot.f k x b = some (rotB x b) := e2
  replace e3 : ∀ k, K3 ≤ k → gatelineref01_Rot.f k x c = some (rotB x c) := e3
  refine ⟨K1 + K2 + K3, fun k hk => ?_⟩
  show gatelineref02_three.f k x a b c = _
  unfold gatelineref02_three.f
  rw [e1 k (by omega), Option.bind_some, e2 k (by omega), Option.bind_some, e3 k (by omega), Option.bind_some]
  rfl
-- bit by bit
theorem pow_cast (j : Nat) : ((2 ^ j : Nat) : Int) > 0 := by have := Nat.two_pow_pos j; omega
theorem bit_of (E j : Nat) (_ : E < 4294967296) : (Int.tdiv (E : Int) ((2 ^ j : Nat) : Int) % 4294967296) % 2 = (((E.testBit j).toNat : Nat) : Int) := by
  have h1 : Int.tdiv (E : Int) ((2 ^ j : Nat) : Int) = ((E / 2 ^ j : Nat) : Int) := rfl
  have h2 : E / 2 ^ j ≤ E := Nat.div_le_self _ _
  rw [h1, Nat.testBit_eq_decide_div_mod_eq]
  generalize E / 2 ^ j = q at *
  by_cases h : q % 2 = 1
  · rw [decide_eq_true h, Bool.toNat_true]; omega
  · rw [decide_eq_false h, Bool.toNat_false]; omega
theorem two_pow_lt (j : Nat) (hj : j < 32) : 2 ^ j < 4294967296 := Nat.pow_lt_pow_right (by omega) (show j < 32 from hj)
theorem next_bit (j : Nat) (hj : j < 32) : (2 * ((2 ^ j : Nat) : Int)) % 4294967296 = if j = 31 then 0 else ((2 ^ (j + 1) : Nat) : Int) := by
  have h := Nat.pow_succ (n := 2) (m := j)
  by_cases h31 : j = 31
  · subst h31; rw [if_pos rfl]; decide
  · have := two_pow_lt (j + 1) (by omega)
    rw [if_neg h31, h, Int.emod_eq_of_lt (by omega) (by omega)]
    omega
theorem mod_next (R j : Nat) : R % 2 ^ (j + 1) = R % 2 ^ j + 2 ^ j * (R.testBit j).toNat := by
  rw [Nat.mod_pow_succ, Nat.testBit_eq_decide_div_mod_eq]
  have h3 : R / 2 ^ j % 2 < 2 := Nat.mod_lt _ (by omega)
  by_cases h : R / 2 ^ j % 2 = 1
  · rw [h, decide_eq_true rfl, Bool.toNat_true]
  · rw [show R / 2 ^ j % 2 = 0 by omega, decide_eq_false (by omega), Bool.toNat_false]
theorem pick_l0 (E F G R : Nat) (hE : E < 4294967296) (hF : F < 4294967296) (hG : G < 4294967296) (hR : R < 4294967296) (hb : ∀ j, j < 32 → R.testBit j = if E.testBit j = true then F.testBit j else G.testBit j) (d : Nat) :
    ∀ (k j : Nat), j + d = 31 → d + 1 < k → gatelineref02_pick.l0 k (E : Int) (F : Int) (G : Int) ((R % 2 ^ j : Nat) : Int) ((2 ^ j : Nat) : Int) = some (R : Int) := by
  have step : ∀ j, j < 32 → ∀ X : Nat, X < 4294967296 → X.testBit j = R.testBit j → (((R % 2 ^ j : Nat) : Int) + (((((Int.tdiv (X : Int) ((2 ^ j : Nat) : Int)) % 4294967296) % 2) * ((2 ^ j : Nat) : Int)) % 4294967296)) % 4294967296 = ((R % 2 ^ (j + 1) : Nat) : Int) := by
    intro j hj X hX hx
    have h1 := two_pow_lt j hj
    rw [bit_of X j hX, hx, mod_next]
    have h3 : R % 2 ^ j + 2 ^ j * (R.testBit j).toNat ≤ R := by rw [← mod_next]; exact Nat.mod_le _ _
    cases hb : R.testBit j
    · rw [hb] at h3
      simp only [Bool.toNat_false, Nat.mul_zero, Nat.add_zero] at h3 ⊢
      omega
    · rw [hb] at h3
      simp only [Bool.toNat_true, Nat.mul_one] at h3 ⊢
      omega
  have last : ∀ k, gatelineref02_pick.l0 (k + 1) (E : Int) (F : Int) (G : Int) ((R % 2 ^ 32 : Nat) : Int) 0 = some (R : Int) := by
    intro k
    simp only [gatelineref02_pick.l0]
    rw [if_neg (by omega), Nat.mod_eq_of_lt (show R < 2 ^ 32 from hR)]
  induction d with
  | zero =>
    intro k j hj hk
    obtain rfl : j = 31 := by omega
    obtain ⟨k, rfl⟩ : ∃ m, k = m + 1 + 1 := ⟨k - 2, by omega⟩
    rw [gatelineref02_pick.l0, if_pos (pow_cast 31), if_neg (by have := pow_cast 31; omega), next_bit 31 (by omega), if_pos rfl, bit_of E 31 hE]
    have hbj := hb 31 (by omega)
    cases hE' : E.testBit 31
    · rw [if_neg (by simp), step 31 (by omega) G hG (by rw [hbj, hE', if_neg (by decide)])]
      exact last k
    · rw [if_pos (by simp), step 31 (by omega) F hF (by rw [hbj, hE', if_pos rfl])]
      exact last k
  | succ d ih =>
    intro k j hj hk
    obtain ⟨k, rfl⟩ : ∃ m, k = m + 1 := ⟨k - 1, by omega⟩
    have go := ih k (j + 1) (by omega) (by omega)
    rw [gatelineref02_pick.l0, if_pos (pow_cast j), if_neg (by have := pow_cast j; omega), next_bit j (by omega), if_neg (show ¬ j = 31 by omega), bit_of E j hE]
    have hbj := hb j (by omega)
    cases hE' : E.testBit j
    · rw [if_neg (by simp), step j (by omega) G hG (by rw [hbj, hE', if_neg (by decide)])]
      exact go
    · rw [if_pos (by simp), step j (by omega) F hF (by rw [hbj, hE', if_pos rfl])]
      exact go
theorem most_l0 (A B C R : Nat) (hA : A < 4294967296) (hB : B < 4294967296) (hC : C < 4294967296) (hR : R < 4294967296) (hb : ∀ j, j < 32 → R.testBit j = decide ((A.testBit j).toNat + (B.testBit j).toNat + (C.testBit j).toNat ≥ 2)) (d : Nat) :
    ∀ (k j : Nat), j + d = 31 → d + 1 < k → gatelineref02_most.l0 k (A : Int) (B : Int) (C : Int) ((R % 2 ^ j : Nat) : Int) ((2 ^ j : Nat) : Int) = some (R : Int) := by
  have last : ∀ k, gatelineref02_most.l0 (k + 1) (A : Int) (B : Int) (C : Int) ((R % 2 ^ 32 : Nat) : Int) 0 = some (R : Int) := by
    intro k
    simp only [gatelineref02_most.l0]
    rw [if_neg (by omega), Nat.mod_eq_of_lt (show R < 2 ^ 32 from hR)]
  have yes : ∀ j, j < 32 → R.testBit j = true → (((R % 2 ^ j : Nat) : Int) + ((2 ^ j : Nat) : Int)) % 4294967296 = ((R % 2 ^ (j + 1) : Nat) : Int) := by
    intro j hj hx
    have h3 : R % 2 ^ j + 2 ^ j * (R.testBit j).toNat ≤ R := by rw [← mod_next]; exact Nat.mod_le _ _
    rw [mod_next, hx] at *
    simp only [Bool.toNat_true, Nat.mul_one] at h3 ⊢
    omega
  have no : ∀ j, R.testBit j = false → R % 2 ^ j = R % 2 ^ (j + 1) := by
    intro j hx
    rw [mod_next, hx]
    simp
  have one : ∀ j, j < 32 → ∀ k q, q = (if j = 31 then (0 : Int) else ((2 ^ (j + 1) : Nat) : Int)) → gatelineref02_most.l0 k (A : Int) (B : Int) (C : Int) ((R % 2 ^ (j + 1) : Nat) : Int) q = some (R : Int) → gatelineref02_most.l0 (k + 1) (A : Int) (B : Int) (C : Int) ((R % 2 ^ j : Nat) : Int) ((2 ^ j : Nat) : Int) = some (R : Int) := by
    intro j hj k q hq go
    subst hq
    rw [gatelineref02_most.l0, if_pos (pow_cast j), if_neg (by have := pow_cast j; omega), next_bit j hj, bit_of A j hA, bit_of B j hB, bit_of C j hC]
    have hbj := hb j hj
    by_cases h2 : (A.testBit j).toNat + (B.testBit j).toNat + (C.testBit j).toNat ≥ 2
    · rw [decide_eq_true h2] at hbj
      rw [if_pos (by omega), yes j hj hbj]
      exact go
    · rw [decide_eq_false h2] at hbj
      rw [if_neg (by omega), no j hbj]
      exact go
  induction d with
  | zero =>
    intro k j hj hk
    obtain rfl : j = 31 := by omega
    obtain ⟨k, rfl⟩ : ∃ m, k = m + 1 + 1 := ⟨k - 2, by omega⟩
    exact one 31 (by omega) (k + 1) 0 rfl (last k)
  | succ d ih =>
    intro k j hj hk
    obtain ⟨k, rfl⟩ : ∃ m, k = m + 1 := ⟨k - 1, by omega⟩
    exact one j (by omega) k _ (by rw [if_neg (by omega)]) (ih k (j + 1) (by omega) (by omega))
theorem lt_and {a b : Nat} (h : a < 4294967296) : a &&& b < 4294967296 := Nat.lt_of_le_of_lt Nat.and_le_left h
theorem lt_xor {a b : Nat} (ha : a < 4294967296) (hb : b < 4294967296) : a ^^^ b < 4294967296 := Nat.xor_lt_two_pow (n := 32) ha hb
theorem max_bit (j : Nat) (hj : j < 32) : Nat.testBit 4294967295 j = true := by
  have : (4294967295 : Nat) = 2 ^ 32 - 1 := rfl
  rw [this, Nat.testBit_two_pow_sub_one, decide_eq_true hj]
theorem pick_ev (e f g : Int) (he0 : 0 ≤ e) (he1 : e < 4294967296) (hf0 : 0 ≤ f) (hf1 : f < 4294967296) (hg0 : 0 ≤ g) (hg1 : g < 4294967296) : Ev (fun k => gatelineref02_pick.f k e f g) (chB e f g) := by
  obtain ⟨E, rfl⟩ := Int.eq_ofNat_of_zero_le he0
  obtain ⟨F, rfl⟩ := Int.eq_ofNat_of_zero_le hf0
  obtain ⟨G, rfl⟩ := Int.eq_ofNat_of_zero_le hg0
  have hE : E < 4294967296 := by omega
  have hF : F < 4294967296 := by omega
  have hG : G < 4294967296 := by omega
  have e0 : chB E F G = (((E &&& F) ^^^ ((4294967295 ^^^ E) &&& G) : Nat) : Int) := by
    unfold chB
    rw [u32_and_nat _ _ hE hF, show (IntKind.u32.max : Int) = ((4294967295 : Nat) : Int) from rfl, u32_xor_nat _ _ (by omega) hE, u32_and_nat _ _ (lt_xor (by omega) hE) hG, u32_xor_nat _ _ (lt_and hE) (lt_and (lt_xor (by omega) hE))]
  refine ⟨40, fun k hk => ?_⟩
  show gatelineref02_pick.f k E F G = _
  rw [e0, gatelineref02_pick.f]
  have := pick_l0 E F G ((E &&& F) ^^^ ((4294967295 ^^^ E) &&& G)) hE hF hG (lt_xor (lt_and hE) (lt_and (lt_xor (by omega) hE))) (fun j hj => by
    rw [Nat.testBit_xor, Nat.testBit_and, Nat.testBit_and, Nat.testBit_xor, max_bit j hj]
    cases E.testBit j <;> cases F.testBit j <;> cases G.testBit j <;> rfl) 31 k 0 rfl (by omega)
  rw [Nat.pow_zero, Nat.mod_one] at this
  exact this
theorem most_ev (e f g : Int) (he0 : 0 ≤ e) (he1 : e < 4294967296) (hf0 : 0 ≤ f) (hf1 : f < 4294967296) (hg0 : 0 ≤ g) (hg1 : g < 4294967296) : Ev (fun k => gatelineref02_most.f k e f g) (majB e f g) := by
  obtain ⟨E, rfl⟩ := Int.eq_ofNat_of_zero_le he0
  obtain ⟨F, rfl⟩ := Int.eq_ofNat_of_zero_le hf0
  obtain ⟨G, rfl⟩ := Int.eq_ofNat_of_zero_le hg0
  have hE : E < 4294967296 := by omega
  have hF : F < 4294967296 := by omega
  have hG : G < 4294967296 := by omega
  have e0 : majB E F G = (((E &&& F) ^^^ (E &&& G) ^^^ (F &&& G) : Nat) : Int) := by
    unfold majB
    rw [u32_and_nat _ _ hE hF, u32_and_nat _ _ hE hG, u32_and_nat _ _ hF hG, u32_xor_nat _ _ (lt_and hE) (lt_and hE), u32_xor_nat _ _ (lt_xor (lt_and hE) (lt_and hE)) (lt_and hF)]
  refine ⟨40, fun k hk => ?_⟩
  show gatelineref02_most.f k E F G = _
  rw [e0, gatelineref02_most.f]
  have := most_l0 E F G ((E &&& F) ^^^ (E &&& G) ^^^ (F &&& G)) hE hF hG (lt_xor (lt_xor (lt_and hE) (lt_and hE)) (lt_and hF)) (fun j hj => by
    rw [Nat.testBit_xor, Nat.testBit_xor, Nat.testBit_and, Nat.testBit_and, Nat.testBit_and]
    cases E.testBit j <;> cases F.testBit j <;> cases G.testBit j <;> rfl) 31 k 0 rfl (by omega)
  rw [Nat.pow_zero, Nat.mod_one] at this
  exact this
-- what is made of words are words
theorem wf_u32 {x : Int} (h : (Lit.int .u32 x).wf = true) : 0 ≤ x ∧ x < 4294967296 := u32_of h
theorem bits_word (op : BinOp) (x y : Int) : 0 ≤ Go.bits op .u32 x y ∧ Go.bits op .u32 x y < 4294967296 := u32_of (Go.wf_bits op .u32 x y)
theorem sg_word (x a b c : Int) : 0 ≤ sg x a b c ∧ sg x a b c < 4294967296 := bits_word _ _ _
theorem r3_word (x a b c : Int) : 0 ≤ r3 x a b c ∧ r3 x a b c < 4294967296 := bits_word _ _ _
end Go.Proofs.Ytbakfengmehkkaa.Q
