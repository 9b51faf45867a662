/- Plain laws of layer 17: fields, their bytes, and their numbers. -/
import Derived.Test.YtekgienbhpknlaaQNumRef
import Derived.Test.YtekgienbhpknlaaPLx0
import Derived.Test.YtekgienbhpknlaaPLx1
import Derived.Test.YtekgienbhpknlaaPLx2
import Derived.Test.YtekgienbhpknlaaPLx3
import Derived.Test.YtekgienbhpknlaaPLx4
import Derived.Test.YtekgienbhpknlaaPLx5
namespace Go.Proofs.Ytekgienbhpknlaa.Q
open Go Go.RowKit Go.Proofs.Ytekgienbhpknlaa.PL Go.Proofs.Ytekgienbhpknlaa.G Go.Proofs.YtekgienbhpknlaaW.PrintWords Go.Proofs.YtekgienbhpknlaaW.PrintLast Go.Proofs.YtekgienbhpknlaaW.PrintMore
theorem listed_ev : Ev gatelinelaw17_listed.f true := Ev.of gatelinelaw17_listed.mono (k := 40) (by decide +kernel)
abbrev S := S40
instance : DecidableEq S := fun a b => match a, b with
  | ⟨x, l⟩, ⟨y, m⟩ => if h : x = y ∧ l = m then .isTrue (by rw [h.1, h.2]) else .isFalse (fun e => h (by injection e with e1 e2; exact ⟨e1, e2⟩))
theorem rd_T (l : List S) (i : Nat) (h : i < l.length) : rd_T40 l (i : Int) = l[i] := by
  simp [rd_T40, h]

/-! ### rows of fields that are the same -/
theorem same17_l0 (a b : List S) (hab : a.length = b.length) (M : Nat) (hM : M ≤ 9223372036854775806) (hlen : a.length ≤ 9223372036854775806) (hv : ∀ x ∈ a, x.f1.length ≤ M) (d : Nat) :
    ∀ (k i : Nat), a.length - i = d → i ≤ a.length → d + M + 1 < k → gatelineref17_Same.l0 k a b (i : Int) = some (decide (a.drop i = b.drop i)) := by
  induction d with
  | zero =>
    intro k i hd hi hk
    obtain ⟨k, rfl⟩ : ∃ m, k = m + 1 := ⟨k - 1, by omega⟩
    have : i = a.length := by omega
    subst this
    rw [gatelineref17_Same.l0, if_neg (by omega)]
    simp [hab]
  | succ d ih =>
    intro k i hd hi hk
    obtain ⟨k, rfl⟩ : ∃ m, k = m + 1 := ⟨k - 1, by omega⟩
    have hlt : i < a.length := by omega
    have hlt' : i < b.length := by omega
    have c1 : (i : Int) < (a.length : Int) := by omega
    have c2 : (0 : Int) ≤ (i : Int) := by omega
    have c3 : (i : Int) < (b.length : Int) := by omega
    have hvi := hv a[i] (List.getElem_mem hlt)
    have hs : gatelineref01_Same.f k (a[i]).f1 (b[i]).f1 = some (decide ((a[i]).f1 = (b[i]).f1)) := by
      unfold gatelineref01_Same.f
      by_cases h : (a[i]).f1.length = (b[i]).f1.length
      · rw [if_pos (by omega)]
        have := same_gen (L := gatelineref01_Same.l0) (fun _ _ _ _ => rfl) (a[i]).f1 (b[i]).f1 h (by omega) (a[i]).f1.length k 0 (by omega) (by omega) (by omega)
        simpa using this
      · rw [if_neg (by omega)]
        congr 1
        exact (decide_eq_false (fun e => h (by rw [e]))).symm
    rw [gatelineref17_Same.l0, if_pos c1, if_pos c2, if_pos c3, rd_T a i hlt, rd_T b i hlt', hs, Option.bind_some, List.drop_eq_getElem_cons hlt, List.drop_eq_getElem_cons hlt', w64_succ i (by omega)]
    have e := ih k (i + 1) (by omega) (by omega) (by omega)
    rw [e]
    have hx : (a[i] = b[i]) ↔ (a[i]).f0 = (b[i]).f0 ∧ (a[i]).f1 = (b[i]).f1 := by
      cases a[i]; cases b[i]; simp
    by_cases h0 : (a[i]).f0 = (b[i]).f0
    · rw [if_pos h0]
      by_cases h1 : (a[i]).f1 = (b[i]).f1
      · rw [if_pos (decide_eq_true h1)]
        congr 1
        simp only [List.cons.injEq, hx.2 ⟨h0, h1⟩, true_and]
      · rw [if_neg (by simp [h1])]
        simp only [List.cons.injEq, hx, h1, and_false, false_and, decide_false]
    · rw [if_neg h0]
      simp only [List.cons.injEq, hx, h0, false_and, decide_false]
theorem same17_ev (a b : List S) (M : Nat) (hM : M ≤ 9223372036854775806) (hlen : a.length ≤ 9223372036854775806) (hv : ∀ x ∈ a, x.f1.length ≤ M) : Ev (fun k => gatelineref17_Same.f k a b) (decide (a = b)) := by
  refine ⟨a.length + M + 2, fun k hk => ?_⟩
  show gatelineref17_Same.f k a b = _
  unfold gatelineref17_Same.f
  by_cases h : a.length = b.length
  · rw [if_pos (by omega)]
    have := same17_l0 a b h M hM hlen hv a.length k 0 (by omega) (by omega) (by omega)
    simpa using this
  · rw [if_neg (by omega)]
    congr 1
    exact (decide_eq_false (fun e => h (by rw [e]))).symm

/-! ### fields that are right -/
def isG : Int → List S → Bool
  | _, [] => true
  | last, f :: l => if f.f0 ≤ last ∨ f.f0 > 255 ∨ f.f1.length > 255 then false else isG f.f0 l
theorem isG_length : ∀ (l : List S) (last : Int), 0 ≤ last → last ≤ 255 → isG last l = true → (l.length : Int) ≤ 255 - last
  | [], last, _, h1, _ => by simp; omega
  | f :: l, last, h0, h1, h => by
    unfold isG at h
    split at h
    · cases h
    · rename_i hn
      have := isG_length l f.f0 (by omega) (by omega) h
      rw [List.length_cons]
      omega
theorem isG_values : ∀ (l : List S) (last : Int), isG last l = true → ∀ x ∈ l, last < x.f0 ∧ x.f0 ≤ 255 ∧ x.f1.length ≤ 255
  | [], _, _, x, hx => by cases hx
  | f :: l, last, h, x, hx => by
    unfold isG at h
    split at h
    · cases h
    · rename_i hn
      rcases List.mem_cons.1 hx with rfl | hx
      · omega
      · have := isG_values l f.f0 h x hx
        omega
theorem is_l0 (l : List S) (hlen : l.length ≤ 9223372036854775806) (d : Nat) : ∀ (k i : Nat) (last : Int), l.length - i = d → i ≤ l.length → d < k → tlv_Is.l0 k last l (l.length : Int) (i : Int) = some (isG last (l.drop i)) := by
  induction d with
  | zero =>
    intro k i last hd hi hk
    obtain ⟨k, rfl⟩ : ∃ m, k = m + 1 := ⟨k - 1, by omega⟩
    have : i = l.length := by omega
    subst this
    rw [tlv_Is.l0, if_neg (by omega), List.drop_length]
    rfl
  | succ d ih =>
    intro k i last hd hi hk
    obtain ⟨k, rfl⟩ : ∃ m, k = m + 1 := ⟨k - 1, by omega⟩
    have hlt : i < l.length := by omega
    have c1 : (i : Int) < (l.length : Int) := by omega
    have c2 : (0 : Int) ≤ (i : Int) := by omega
    rw [tlv_Is.l0, if_pos c1, if_pos c2, if_pos c1, rd_T l i hlt, w64_succ i (by omega), ih k (i + 1) _ (by omega) (by omega) (by omega), List.drop_eq_getElem_cons hlt, isG]
    by_cases h1 : (l[i]).f0 ≤ last
    · rw [if_pos h1, if_pos (.inl h1)]
    · rw [if_neg h1]
      by_cases h2 : (l[i]).f0 > 255
      · rw [if_pos h2, if_pos (.inr (.inl h2))]
      · rw [if_neg h2]
        by_cases h3 : (l[i]).f1.length > 255
        · rw [if_pos (by omega), if_pos (.inr (.inr h3))]
        · rw [if_neg (by omega), if_neg (by omega)]
theorem is_ev (l : List S) (hlen : l.length ≤ 9223372036854775806) : Ev (fun k => tlv_Is.f k l) (isG 0 l) := by
  refine ⟨l.length + 1, fun k hk => ?_⟩
  show tlv_Is.f k l = _
  unfold tlv_Is.f
  have := is_l0 l hlen l.length k 0 0 (by omega) (by omega) (by omega)
  simpa using this
def before (l : List S) (i : Nat) : Int := if i = 0 then 0 else (l.getD (i - 1) ⟨0, []⟩).f0
theorem refIs_l0 (l : List S) (hlen : l.length ≤ 9223372036854775806) (d : Nat) : ∀ (k i : Nat), l.length - i = d → i ≤ l.length → d < k → 0 ≤ before l i → gatelineref17_Is.l0 k l (i : Int) = some (isG (before l i) (l.drop i)) := by
  induction d with
  | zero =>
    intro k i hd hi hk _
    obtain ⟨k, rfl⟩ : ∃ m, k = m + 1 := ⟨k - 1, by omega⟩
    have : i = l.length := by omega
    subst this
    rw [gatelineref17_Is.l0, if_neg (by omega), List.drop_length]
    rfl
  | succ d ih =>
    intro k i hd hi hk hb
    obtain ⟨k, rfl⟩ : ∃ m, k = m + 1 := ⟨k - 1, by omega⟩
    have hlt : i < l.length := by omega
    have c1 : (i : Int) < (l.length : Int) := by omega
    have c2 : (0 : Int) ≤ (i : Int) := by omega
    have hbn : before l (i + 1) = (l[i]).f0 := by simp [before, hlt]
    rw [gatelineref17_Is.l0, if_pos c1, if_pos c2, rd_T l i hlt, w64_succ i (by omega), List.drop_eq_getElem_cons hlt, isG]
    by_cases h1 : (l[i]).f0 < 1
    · rw [if_pos h1, if_pos (.inl (by omega))]
    · rw [if_neg h1]
      by_cases h2 : (l[i]).f0 > 255
      · rw [if_pos h2, if_pos (.inr (.inl h2))]
      · rw [if_neg h2]
        by_cases h3 : (l[i]).f1.length > 255
        · rw [if_pos (by omega), if_pos (.inr (.inr h3))]
        · rw [if_neg (by omega)]
          have e := ih k (i + 1) (by omega) (by omega) (by omega) (by rw [hbn]; omega)
          rw [hbn] at e
          by_cases h4 : (i : Int) > 0
          · have e1 : wrap64 ((i : Int) - 1) = ((i - 1 : Nat) : Int) := by rw [w64 (by omega) (by omega)]; omega
            have hlt2 : i - 1 < l.length := by omega
            have hbi : before l i = (l[i - 1]).f0 := by
              have : i ≠ 0 := by omega
              simp [before, this, hlt2]
            rw [if_pos h4, e1, if_pos (by omega), if_pos (by omega), rd_T l (i - 1) hlt2, ← hbi]
            by_cases h5 : (l[i]).f0 ≤ before l i
            · rw [if_pos h5, if_pos (.inl h5)]
            · rw [if_neg h5, if_neg (by omega), e]
          · have : i = 0 := by omega
            subst this
            rw [if_neg h4, e, if_neg (by simp [before]; omega)]
theorem refIs_ev (l : List S) (hlen : l.length ≤ 9223372036854775806) : Ev (fun k => gatelineref17_Is.f k l) (isG 0 l) := by
  refine ⟨l.length + 1, fun k hk => ?_⟩
  show gatelineref17_Is.f k l = _
  unfold gatelineref17_Is.f
  have := refIs_l0 l hlen l.length k 0 (by omega) (by omega) (by omega) (by simp [before])
  simpa [before] using this
end Go.Proofs.Ytekgienbhpknlaa.Q
