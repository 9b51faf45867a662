/- Plain laws of layer 1, second part: the reference's words and bytes. -/
import Derived.Test.YtbakfengmehkkaaQBits
import Derived.Test.YtbakfengmehkkaaPLyC
namespace Go.Proofs.Ytbakfengmehkkaa.Q
open Go Go.RowKit Go.Proofs.Ytbakfengmehkkaa.PL Go.Proofs.YtbakfengmehkkaaW.PrintWords Go.Proofs.YtbakfengmehkkaaW.PrintLast Go.Proofs.YtbakfengmehkkaaW.PrintMore

theorem refWords_step (k : Nat) (b x4 : List Int) (i j : Nat) (x6 : Int) (hj : j < 4) (hi : i + j < b.length) (hl : b.length ≤ 140737488355328) :
    gatelineref01_Words.l1 (k + 1) b x4 (i : Int) x6 (j : Int) = gatelineref01_Words.l1 k b x4 (i : Int) ((((256 * x6) % 4294967296) + ((b.getD (i + j) 0) % 4294967296)) % 4294967296) ((j + 1 : Nat) : Int) := by
  have c1 : (j : Int) < 4 := by omega
  have c2 : (0 : Int) ≤ ((i + j : Nat) : Int) := by omega
  have c3 : ((i + j : Nat) : Int) < (b.length : Int) := by omega
  have h1 : i + j ≤ 9223372036854775807 := by omega
  have h2 : j ≤ 9223372036854775806 := by omega
  rw [gatelineref01_Words.l1, if_pos c1, w64_plus i j h1, if_pos c2, if_pos c3, w64_succ j h2]
  simp only [rd, Int.toNat_natCast]
theorem refWords_word (k : Nat) (b x4 : List Int) (hb : IsBytes b) (m : Nat) (hm : 4 * m + 4 ≤ b.length) (hl : b.length ≤ 140737488355328) (hx : x4.length < 35184372088832) :
    gatelineref01_Words.l1 (k + 5) b x4 ((4 * m : Nat) : Int) 0 0 = gatelineref01_Words.l0 k b (x4 ++ [word b m]) ((4 * (m + 1) : Nat) : Int) := by
  have s0 := refWords_step (k + 4) b x4 (4 * m) 0 0 (by omega) (by omega) hl
  have s1 := fun z => refWords_step (k + 3) b x4 (4 * m) 1 z (by omega) (by omega) hl
  have s2 := fun z => refWords_step (k + 2) b x4 (4 * m) 2 z (by omega) (by omega) hl
  have s3 := fun z => refWords_step (k + 1) b x4 (4 * m) 3 z (by omega) (by omega) hl
  have hw := w64_plus (4 * m) 4 (by omega)
  have h0 := hb.getD (4 * m)
  have h1 := hb.getD (4 * m + 1)
  have h2 := hb.getD (4 * m + 2)
  have h3 := hb.getD (4 * m + 3)
  refine s0.trans ((s1 _).trans ((s2 _).trans ((s3 _).trans ?_)))
  clear s0 s1 s2 s3
  rw [gatelineref01_Words.l1, if_neg (by decide), if_pos hx]
  have e : ∀ a b c d : Int, (0 ≤ a ∧ a ≤ 255) → (0 ≤ b ∧ b ≤ 255) → (0 ≤ c ∧ c ≤ 255) → (0 ≤ d ∧ d ≤ 255) →
      ((256 * (((256 * (((256 * (((256 * 0) % 4294967296 + a % 4294967296) % 4294967296)) % 4294967296 + b % 4294967296) % 4294967296)) % 4294967296 + c % 4294967296) % 4294967296)) % 4294967296 + d % 4294967296) % 4294967296 = a * 16777216 + b * 65536 + c * 256 + d := by
    intro a b c d ha hb hc hd
    omega
  rw [Nat.add_zero, e _ _ _ _ h0 h1 h2 h3]
  have hw' : wrap64 (((4 * m : Nat) : Int) + 4) = ((4 * (m + 1) : Nat) : Int) := hw
  rw [hw']
  rfl
theorem refWords_l0 (b : List Int) (hb : IsBytes b) (n : Nat) (hn : 4 * n = b.length) (hlen : b.length ≤ 140737488355328) (d : Nat) :
    ∀ (k m : Nat), n - m = d → m ≤ n → 6 * d < k → gatelineref01_Words.l0 k b ((List.range m).map (word b)) ((4 * m : Nat) : Int) = some ((List.range n).map (word b), 0) := by
  induction d with
  | zero =>
    intro k m hd hm hk
    obtain ⟨k, rfl⟩ : ∃ j, k = j + 1 := ⟨k - 1, by omega⟩
    have c : ¬ ((4 * m : Nat) : Int) < (b.length : Int) := by omega
    rw [gatelineref01_Words.l0, if_neg c, show m = n by omega]
  | succ d ih =>
    intro k m hd hm hk
    obtain ⟨k, rfl⟩ : ∃ j, k = j + 6 := ⟨k - 6, by omega⟩
    have c : ((4 * m : Nat) : Int) < (b.length : Int) := by omega
    have := ih k (m + 1) (by omega) (by omega) (by omega)
    rw [show k + 6 = (k + 5) + 1 from rfl, gatelineref01_Words.l0, if_pos c, refWords_word k b _ hb m (by omega) hlen (by simp; omega)]
    rw [List.range_succ, List.map_append] at this
    exact this
theorem refWords_ev (b : List Int) (hb : IsBytes b) (hlen : b.length ≤ 140737488355328) : Ev (fun k => gatelineref01_Words.f k b) (wordsR b) := by
  refine ⟨6 * (b.length / 4) + 1, fun k hk => ?_⟩
  show gatelineref01_Words.f k b = _
  unfold gatelineref01_Words.f wordsR
  by_cases h : b.length % 4 = 0
  · rw [if_pos (by omega), if_pos h]
    exact refWords_l0 b hb (b.length / 4) (by omega) hlen (b.length / 4) k 0 (by omega) (by omega) (by omega)
  · rw [if_neg (by omega), if_neg h]

theorem refBytes_l0 (w : List Int) (hw : IsWords w) (hlen : w.length ≤ 1000000000) (d : Nat) : ∀ (k i : Nat), w.length - i = d → i ≤ w.length → d < k →
    gatelineref01_Bytes.l0 k w (bytesOfW (w.take i)) (i : Int) = some (bytesOfW w) := by
  induction d with
  | zero =>
    intro k i hd hi hk
    obtain ⟨k, rfl⟩ : ∃ m, k = m + 1 := ⟨k - 1, by omega⟩
    have c : ¬ (i : Int) < (w.length : Int) := by omega
    rw [gatelineref01_Bytes.l0, if_neg c, show i = w.length by omega, List.take_length]
  | succ d ih =>
    intro k i hd hi hk
    obtain ⟨k, rfl⟩ : ∃ m, k = m + 1 := ⟨k - 1, by omega⟩
    have hl : (bytesOfW (w.take i)).length = 4 * i := by rw [bytesOfW_length, List.length_take]; omega
    have hr : rd w (i : Int) = w.getD i 0 := by simp [rd]
    have hx := hw.getD i
    have := ih k (i + 1) (by omega) (by omega) (by omega)
    rw [bytesOfW_snoc w i (by omega)] at this
    have c1 : (i : Int) < (w.length : Int) := by omega
    have c2 : (0 : Int) ≤ (i : Int) := by omega
    have hi1 : i ≤ 9223372036854775806 := by omega
    have c3 : 4 * i + 4 < 140737488355328 := by omega
    rw [gatelineref01_Bytes.l0, if_pos c1, if_pos c2, Option.bind_some, hr, hl, w64_succ i hi1]
    have e : ∀ x : Int, 0 ≤ x ∧ x < 4294967296 → ([((Int.tdiv x 16777216) % 4294967296) % 256, ((Int.tdiv x 65536) % 4294967296) % 256, ((Int.tdiv x 256) % 4294967296) % 256, (Int.tmod x 256) % 256] : List Int) = bytesW x := by
      intro x hx
      rw [Int.tdiv_eq_ediv_of_nonneg hx.1, Int.tdiv_eq_ediv_of_nonneg hx.1, Int.tdiv_eq_ediv_of_nonneg hx.1, Int.tmod_eq_emod_of_nonneg hx.1]
      simp only [bytesW, List.cons.injEq, and_true]
      omega
    rw [e _ hx, if_pos (by simp only [bytesW, List.length_cons, List.length_nil]; exact c3)]
    exact this
theorem refBytes_ev (w : List Int) (hw : IsWords w) (hlen : w.length ≤ 1000000000) : Ev (fun k => gatelineref01_Bytes.f k w) (bytesOfW w) := by
  refine ⟨w.length + 1, fun k hk => ?_⟩
  exact refBytes_l0 w hw hlen w.length k 0 (by omega) (by omega) (by omega)
end Go.Proofs.Ytbakfengmehkkaa.Q
