/- Plain laws of layer 1, fourth part: the reference's numbers as bytes. -/
import Derived.Test.YtekgienbhpknlaaQNum
import Derived.Test.YtekgienbhpknlaaPLx5
namespace Go.Proofs.Ytekgienbhpknlaa.Q
open Go Go.RowKit Go.Proofs.Ytekgienbhpknlaa.PL Go.Proofs.YtekgienbhpknlaaW.PrintWords Go.Proofs.YtekgienbhpknlaaW.PrintLast Go.Proofs.YtekgienbhpknlaaW.PrintMore
theorem wrap_step (a x : Int) (_hx : 0 ≤ x ∧ x ≤ 255) : wrap64 ((wrap64 (256 * wrap64 a)) + wrap64 x) = wrap64 (256 * a + x) := by
  unfold wrap64
  omega
theorem refGet_l0 (l : List Int) (hl : IsBytes l) (h8 : l.length ≤ 8) (d : Nat) : ∀ (k i : Nat), l.length - i = d → i ≤ l.length → d < k →
    gatelineref01_Get.l0 k l (wrap64 (val (l.take i))) (i : Int) = some (wrap64 (val l), 0) := by
  induction d with
  | zero =>
    intro k i hd hi hk
    obtain ⟨k, rfl⟩ : ∃ m, k = m + 1 := ⟨k - 1, by omega⟩
    have c : ¬ (i : Int) < (l.length : Int) := by omega
    rw [gatelineref01_Get.l0, if_neg c, show i = l.length by omega, List.take_length]
  | succ d ih =>
    intro k i hd hi hk
    obtain ⟨k, rfl⟩ : ∃ m, k = m + 1 := ⟨k - 1, by omega⟩
    have c1 : (i : Int) < (l.length : Int) := by omega
    have c2 : (0 : Int) ≤ (i : Int) := by omega
    have hi1 : i ≤ 9223372036854775806 := by omega
    have hr : rd l (i : Int) = l.getD i 0 := by simp [rd]
    have := ih k (i + 1) (by omega) (by omega) (by omega)
    rw [take_snoc l i (by omega), val_snoc] at this
    rw [gatelineref01_Get.l0, if_pos c1, if_pos c2, hr, wrap_step _ _ (hl.getD i), w64_succ i hi1]
    exact this
theorem refGet_ev (l : List Int) (hl : IsBytes l) : Ev (fun k => gatelineref01_Get.f k l) (getR l) := by
  refine ⟨12, fun k hk => ?_⟩
  show gatelineref01_Get.f k l = _
  obtain ⟨k, rfl⟩ : ∃ m, k = m + 1 := ⟨k - 1, by omega⟩
  unfold gatelineref01_Get.f
  by_cases h : l.length > 8
  · rw [if_pos (by omega)]
    unfold getR
    rw [if_pos h]
  · have c0 : ¬ ((l.length : Int) > 8) := by omega
    have hj : gatelineref01_Get.j0 (k + 1) l false = some (wrap64 (val l), 0) := by
      have := refGet_l0 l hl (by omega) l.length k 0 (by omega) (by omega) (by omega)
      rw [gatelineref01_Get.j0, if_neg (by decide)]
      have hz : wrap64 (val (l.take 0)) = 0 := w64 (x := 0) (by omega) (by omega)
      rw [hz] at this
      exact this
    have hj' : gatelineref01_Get.j0 (k + 1) l true = some (0, 23) := by rw [gatelineref01_Get.j0, if_pos rfl]
    rw [if_neg c0]
    have hg : getR l = if val l ≥ 9223372036854775808 then (0, 23) else (val l, 0) := by
      unfold getR
      rw [if_neg h]
    rw [hg]
    have hb := val_bound l hl
    by_cases h8 : l.length = 8
    · have c1 : (l.length : Int) = 8 := by omega
      have c2 : (0 : Int) < (l.length : Int) := by omega
      rw [if_pos c1, if_pos c2]
      match l, h8 with
      | x :: t, h8 =>
        have ht : t.length = 7 := by simpa using h8
        have hx := hl x (by simp)
        have hbt := val_bound t (fun y hy => hl y (by simp [hy]))
        rw [ht, pow256_7] at hbt
        have hv := val_cons x t
        rw [ht, pow256_7] at hv
        have hr : rd (x :: t) 0 = x := rfl
        rw [hr]
        by_cases hx2 : x ≥ 128
        · rw [decide_eq_true hx2, hj', if_pos (by omega)]
        · rw [decide_eq_false hx2, hj, if_neg (by omega), w64 (by omega) (by omega)]
    · have c1 : ¬ (l.length : Int) = 8 := by omega
      have hp : 256 ^ l.length ≤ 256 ^ 7 := Nat.pow_le_pow_right (by decide) (by omega)
      rw [pow256_7] at hp
      rw [if_neg c1, hj, if_neg (by omega), w64 (by omega) (by omega)]
theorem putR_length (n size : Int) : (putR n size).1.length ≤ 8 := by
  unfold putR
  split
  · simp
  · split
    · simp
    · rw [be_length]; omega
end Go.Proofs.Ytekgienbhpknlaa.Q
