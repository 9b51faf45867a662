/- Plain laws of layer 17, second part: fields as bytes, and bytes as fields. -/
import Derived.Test.YtekgienbhpknlaaQTlv
namespace Go.Proofs.Ytekgienbhpknlaa.Q
open Go Go.RowKit Go.Proofs.Ytekgienbhpknlaa.PL Go.Proofs.Ytekgienbhpknlaa.G Go.Proofs.YtekgienbhpknlaaW.PrintWords Go.Proofs.YtekgienbhpknlaaW.PrintLast Go.Proofs.YtekgienbhpknlaaW.PrintMore

/-! ### fields as bytes -/
def putB (f : S) : List Int := f.f0 % 256 :: (f.f1.length : Int) % 256 :: f.f1
def putG (l : List S) : List Int := l.flatMap putB
theorem putG_cons (f : S) (l : List S) : putG (f :: l) = f.f0 % 256 :: (f.f1.length : Int) % 256 :: (f.f1 ++ putG l) := by
  simp [putG, putB]
def putRG (l : List S) : List Int × Int := if isG 0 l = true then (putG l, 0) else ([], 1)
theorem tput_l0 (l : List S) (hM : ∀ x ∈ l, x.f1.length ≤ 255) (hlen : l.length ≤ 255) (d : Nat) : ∀ (k i : Nat) (acc : List Int), l.length - i = d → i ≤ l.length → d < k → acc.length ≤ 257 * i →
    tlv_Put.l0 k acc l (l.length : Int) (i : Int) = some (acc ++ putG (l.drop i), 0) := by
  induction d with
  | zero =>
    intro k i acc hd hi hk _
    obtain ⟨k, rfl⟩ : ∃ m, k = m + 1 := ⟨k - 1, by omega⟩
    have : i = l.length := by omega
    subst this
    rw [tlv_Put.l0, if_neg (by omega), List.drop_length]
    simp [putG]
  | succ d ih =>
    intro k i acc hd hi hk ha
    obtain ⟨k, rfl⟩ : ∃ m, k = m + 1 := ⟨k - 1, by omega⟩
    have hlt : i < l.length := by omega
    have c1 : (i : Int) < (l.length : Int) := by omega
    have c2 : (0 : Int) ≤ (i : Int) := by omega
    have hx := hM l[i] (List.getElem_mem hlt)
    have e := ih k (i + 1) (acc ++ [(l[i]).f0 % 256, ((l[i]).f1.length : Int) % 256] ++ (l[i]).f1) (by omega) (by omega) (by omega) (by simp only [List.length_append, List.length_cons, List.length_nil]; omega)
    rw [tlv_Put.l0, if_pos c1, if_pos c2, if_pos c1, rd_T l i hlt, w64_succ i (by omega), Option.bind_some, if_pos (by simp only [List.length_cons, List.length_nil]; omega), Option.bind_some, if_pos (by simp only [List.length_append, List.length_cons, List.length_nil]; omega), e, List.drop_eq_getElem_cons hlt, putG_cons]
    simp
theorem rput_l0 (l : List S) (hM : ∀ x ∈ l, x.f1.length ≤ 255) (hlen : l.length ≤ 255) (d : Nat) : ∀ (k i : Nat) (acc : List Int), l.length - i = d → i ≤ l.length → d < k → acc.length ≤ 257 * i →
    gatelineref17_Put.l0 k l acc (i : Int) = some (acc ++ putG (l.drop i), 0) := by
  induction d with
  | zero =>
    intro k i acc hd hi hk _
    obtain ⟨k, rfl⟩ : ∃ m, k = m + 1 := ⟨k - 1, by omega⟩
    have : i = l.length := by omega
    subst this
    rw [gatelineref17_Put.l0, if_neg (by omega), List.drop_length]
    simp [putG]
  | succ d ih =>
    intro k i acc hd hi hk ha
    obtain ⟨k, rfl⟩ : ∃ m, k = m + 1 := ⟨k - 1, by omega⟩
    have hlt : i < l.length := by omega
    have c1 : (i : Int) < (l.length : Int) := by omega
    have c2 : (0 : Int) ≤ (i : Int) := by omega
    have hx := hM l[i] (List.getElem_mem hlt)
    have e := ih k (i + 1) (acc ++ [(l[i]).f0 % 256, ((l[i]).f1.length : Int) % 256] ++ (l[i]).f1) (by omega) (by omega) (by omega) (by simp only [List.length_append, List.length_cons, List.length_nil]; omega)
    rw [gatelineref17_Put.l0, if_pos c1, if_pos c2, rd_T l i hlt, w64_succ i (by omega), Option.bind_some, if_pos (by simp only [List.length_cons, List.length_nil]; omega), Option.bind_some, if_pos (by simp only [List.length_append, List.length_cons, List.length_nil]; omega), e, List.drop_eq_getElem_cons hlt, putG_cons]
    simp
theorem isG_small (l : List S) (h : isG 0 l = true) : l.length ≤ 255 ∧ ∀ x ∈ l, x.f1.length ≤ 255 := by
  have := isG_length l 0 (by omega) (by omega) h
  exact ⟨by omega, fun x hx => (isG_values l 0 h x hx).2.2⟩
theorem tput_ev (l : List S) (hlen : l.length ≤ 9223372036854775806) : Ev (fun k => tlv_Put.f k l) (putRG l) := by
  obtain ⟨K, hK⟩ := is_ev l hlen
  refine ⟨K + l.length + 1, fun k hk => ?_⟩
  have hi : tlv_Is.f k l = some (isG 0 l) := hK k (by omega)
  show tlv_Put.f k l = _
  unfold tlv_Put.f putRG
  rw [hi, Option.bind_some]
  by_cases h : isG 0 l = true
  · rw [if_pos h, if_pos h]
    have := tput_l0 l (isG_small l h).2 (isG_small l h).1 l.length k 0 [] (by omega) (by omega) (by omega) (by simp)
    simpa using this
  · rw [if_neg h, if_neg h]
theorem rput_ev (l : List S) (hlen : l.length ≤ 9223372036854775806) : Ev (fun k => gatelineref17_Put.f k l) (putRG l) := by
  obtain ⟨K, hK⟩ := refIs_ev l hlen
  refine ⟨K + l.length + 1, fun k hk => ?_⟩
  have hi : gatelineref17_Is.f k l = some (isG 0 l) := hK k (by omega)
  show gatelineref17_Put.f k l = _
  unfold gatelineref17_Put.f putRG
  rw [hi, Option.bind_some]
  by_cases h : isG 0 l = true
  · rw [if_pos h, if_pos h]
    have := rput_l0 l (isG_small l h).2 (isG_small l h).1 l.length k 0 [] (by omega) (by omega) (by omega) (by simp)
    simpa using this
  · rw [if_neg h, if_neg h]
theorem putG_length (l : List S) (hM : ∀ x ∈ l, x.f1.length ≤ 255) : (putG l).length ≤ 257 * l.length := by
  induction l with
  | nil => simp [putG]
  | cons f l ih =>
    have h1 := ih (fun x hx => hM x (by simp [hx]))
    have h2 := hM f (by simp)
    rw [putG_cons]
    simp only [List.length_cons, List.length_append]
    omega
theorem putRG_length (l : List S) : (putRG l).1.length ≤ 70000 := by
  unfold putRG
  split
  · rename_i h
    have := putG_length l (isG_small l h).2
    have := (isG_small l h).1
    show (putG l).length ≤ _
    omega
  · simp

/-! ### bytes as fields -/
def getG : Nat → List Int → Int → List S × Int
  | 0, _, _ => ([], 0)
  | n + 1, xs, last => if xs.length = 0 then ([], 0) else if xs.length < 2 then ([], 14) else if xs.getD 0 0 ≤ last then ([], 13) else if (xs.length : Int) < 2 + xs.getD 1 0 then ([], 14) else
      (if (getG n (xs.drop (2 + xs.getD 1 0).toNat) (xs.getD 0 0)).2 = 0 then ((⟨xs.getD 0 0, (xs.take (2 + xs.getD 1 0).toNat).drop 2⟩ : S) :: (getG n (xs.drop (2 + xs.getD 1 0).toNat) (xs.getD 0 0)).1, 0) else ([], (getG n (xs.drop (2 + xs.getD 1 0).toNat) (xs.getD 0 0)).2))
theorem IsBytes.drop {b : List Int} (h : IsBytes b) (m : Nat) : IsBytes (b.drop m) := fun x hx => h x (List.mem_of_mem_drop hx)
theorem IsBytes.take {b : List Int} (h : IsBytes b) (m : Nat) : IsBytes (b.take m) := fun x hx => h x (List.mem_of_mem_take hx)
theorem getG_err (n : Nat) : ∀ (xs : List Int) (last : Int), (getG n xs last).2 ≠ 0 → (getG n xs last).1 = [] := by
  induction n with
  | zero => intro xs last h; rfl
  | succ n ih =>
    intro xs last h
    rw [getG] at h ⊢
    by_cases c0 : xs.length = 0
    · rw [if_pos c0]
    · rw [if_neg c0] at h ⊢
      by_cases c1 : xs.length < 2
      · rw [if_pos c1]
      · rw [if_neg c1] at h ⊢
        by_cases c2 : xs.getD 0 0 ≤ last
        · rw [if_pos c2]
        · rw [if_neg c2] at h ⊢
          by_cases c3 : (xs.length : Int) < 2 + xs.getD 1 0
          · rw [if_pos c3]
          · rw [if_neg c3] at h ⊢
            by_cases c4 : (getG n (xs.drop (2 + xs.getD 1 0).toNat) (xs.getD 0 0)).2 = 0
            · rw [if_pos c4] at h
              exact absurd rfl h
            · rw [if_neg c4]
theorem getG_fuel (n : Nat) : ∀ (m : Nat) (xs : List Int) (last : Int), IsBytes xs → xs.length < n → xs.length < m → getG n xs last = getG m xs last := by
  induction n with
  | zero => intro m xs last _ h; omega
  | succ n ih =>
    intro m xs last hB h1 h2
    obtain ⟨m, rfl⟩ : ∃ q, m = q + 1 := ⟨m - 1, by omega⟩
    have hx := hB.getD 1
    unfold getG
    by_cases c0 : xs.length = 0
    · rw [if_pos c0, if_pos c0]
    · have := ih m (xs.drop (2 + xs.getD 1 0).toNat) (xs.getD 0 0) (hB.drop _) (by rw [List.length_drop]; omega) (by rw [List.length_drop]; omega)
      rw [this]
theorem rd0 (xs : List Int) (i : Nat) : rd xs (i : Int) = xs.getD i 0 := by simp [rd]
theorem getL_eq (k : Nat) : ∀ (xs : List Int) (last : Int) (out : List S), IsBytes xs → xs.length < k → out.length + xs.length < 4398046511104 →
    getL k xs last out = some (if (getG k xs last).2 = 0 then (out ++ (getG k xs last).1, 0) else ([], (getG k xs last).2)) := by
  induction k with
  | zero => intro xs last out _ h; omega
  | succ k ih =>
    intro xs last out hB hk ho
    have h0 := hB.getD 0
    have h1 := hB.getD 1
    have e0 : rd xs 0 = xs.getD 0 0 := rd0 xs 0
    have e1 : rd xs 1 = xs.getD 1 0 := rd0 xs 1
    rw [getL, getG, e0, e1]
    by_cases c0 : xs.length = 0
    · rw [if_neg (by omega), if_pos c0]
      simp
    · rw [if_pos (by omega), if_neg c0]
      by_cases c1 : xs.length < 2
      · rw [if_pos c1, if_pos c1]
        simp
      · rw [if_neg c1, if_neg c1, if_pos (by omega)]
        by_cases c2 : xs.getD 0 0 ≤ last
        · rw [if_pos c2, if_pos c2]
          simp
        · rw [if_neg c2, if_neg c2]
          by_cases c3 : (xs.length : Int) < 2 + xs.getD 1 0
          · rw [if_pos c3, if_pos c3]
            simp
          · rw [if_neg c3, if_neg c3, if_pos (by omega), ih _ _ _ (hB.drop _) (by rw [List.length_drop]; omega) (by rw [List.length_drop, List.length_append]; simp only [List.length_cons, List.length_nil]; omega)]
            by_cases c4 : (getG k (xs.drop (2 + xs.getD 1 0).toNat) (xs.getD 0 0)).2 = 0
            · simp only [c4, if_true]
              simp
            · simp only [if_neg c4]
def getRG (xs : List Int) : List S × Int := getG (xs.length + 1) xs 0
theorem getRG_pair (n : Nat) (xs : List Int) (last : Int) : (if (getG n xs last).2 = 0 then ([] ++ (getG n xs last).1, 0) else (([] : List S), (getG n xs last).2)) = getG n xs last := by
  by_cases c : (getG n xs last).2 = 0
  · rw [if_pos c, List.nil_append]
    exact Prod.ext rfl c.symm
  · rw [if_neg c]
    exact Prod.ext (getG_err n xs last c).symm rfl
theorem tget_eq (xs : List Int) (hB : IsBytes xs) (hlen : xs.length < 4398046511104) : tlv_Get.f xs = some (getRG xs) := by
  unfold tlv_Get.f getF
  rw [getL_eq (xs.length + 1) xs 0 [] hB (by omega) (by simp; omega), getRG_pair]
  rfl
theorem rget_l0 (xs : List Int) (hB : IsBytes xs) (hlen : xs.length < 4398046511104) (n : Nat) : ∀ (k i : Nat) (last : Int) (out : List S), xs.length - i < n → n ≤ k → i ≤ xs.length → out.length + (xs.length - i) < 4398046511104 →
    gatelineref17_Get.l0 k xs out last (i : Int) = some (if (getG n (xs.drop i) last).2 = 0 then (out ++ (getG n (xs.drop i) last).1, 0) else ([], (getG n (xs.drop i) last).2)) := by
  induction n with
  | zero => intro k i last out h; omega
  | succ n ih =>
    intro k i last out hk hkn hi ho
    obtain ⟨k, rfl⟩ : ∃ q, k = q + 1 := ⟨k - 1, by omega⟩
    have h0 := hB.getD i
    have h1 := hB.getD (i + 1)
    have g0 := Aside0.mk (show (xs.drop i).getD 0 0 = xs.getD i 0 from by simp [List.getD_eq_getElem?_getD])
    have g1 := Aside0.mk (show (xs.drop i).getD 1 0 = xs.getD (i + 1) 0 from by simp [List.getD_eq_getElem?_getD])
    have gl : (xs.drop i).length = xs.length - i := List.length_drop
    have e1 := Aside0.mk (show wrap64 ((i : Int) + 1) = ((i + 1 : Nat) : Int) from w64_succ i (by omega))
    have e2 := Aside0.mk (show wrap64 ((i : Int) + 2) = ((i + 2 : Nat) : Int) from w64_plus i 2 (by omega))
    have e3 := Aside0.mk (show wrap64 (rd xs (i : Int)) = xs.getD i 0 from by rw [rd0, w64 (by omega) (by omega)])
    have e4 := Aside0.mk (show wrap64 (rd xs ((i + 1 : Nat) : Int)) = xs.getD (i + 1) 0 from by rw [rd0, w64 (by omega) (by omega)])
    have e5 := Aside0.mk (show wrap64 (((i + 2 : Nat) : Int) + xs.getD (i + 1) 0) = ((i + 2 + (xs.getD (i + 1) 0).toNat : Nat) : Int) from by rw [w64 (by omega) (by omega)]; omega)
    rw [gatelineref17_Get.l0, getG, g0.out, g1.out, gl]
    clear g0 g1
    by_cases c0 : xs.length - i = 0
    · rw [if_neg (by omega), if_pos c0]
      simp
    · rw [if_pos (by omega), if_neg c0, e2.out]
      by_cases c1 : xs.length - i < 2
      · rw [if_pos (by omega), if_pos c1]
        simp
      · rw [if_neg (by omega), if_neg c1, if_pos (by omega), e3.out]
        by_cases c2 : xs.getD i 0 ≤ last
        · rw [if_pos c2, if_pos c2]
          simp
        · rw [if_neg c2, if_neg c2, e1.out, if_pos (by omega), if_pos (by omega), e4.out, e5.out]
          by_cases c3 : ((xs.length - i : Nat) : Int) < 2 + xs.getD (i + 1) 0
          · rw [if_pos (by omega), if_pos c3]
            simp
          · have e := ih k (i + 2 + (xs.getD (i + 1) 0).toNat) (xs.getD i 0) (out ++ [(⟨xs.getD i 0, (xs.take (i + 2 + (xs.getD (i + 1) 0).toNat)).drop (i + 2)⟩ : S)]) (by omega) (by omega) (by omega) (by rw [List.length_append]; simp only [List.length_cons, List.length_nil]; omega)
            have d1 : (xs.drop i).drop (2 + xs.getD (i + 1) 0).toNat = xs.drop (i + 2 + (xs.getD (i + 1) 0).toNat) := by rw [List.drop_drop]; congr 1; omega
            have d2 : ((xs.drop i).take (2 + xs.getD (i + 1) 0).toNat).drop 2 = (xs.take (i + 2 + (xs.getD (i + 1) 0).toNat)).drop (i + 2) := by
              rw [show i + 2 + (xs.getD (i + 1) 0).toNat = i + (2 + xs.getD (i + 1) 0).toNat by omega, List.take_drop, List.drop_drop]
            rw [if_neg (by omega), if_neg c3, if_pos (by omega), if_pos (by omega), if_pos (by omega), if_pos (by omega), Int.toNat_natCast, Int.toNat_natCast, e, d1, d2]
            by_cases c4 : (getG n (xs.drop (i + 2 + (xs.getD (i + 1) 0).toNat)) (xs.getD i 0)).2 = 0
            · simp only [c4, if_true]
              simp
            · simp only [if_neg c4]
theorem rget_ev (xs : List Int) (hB : IsBytes xs) (hlen : xs.length < 4398046511104) : Ev (fun k => gatelineref17_Get.f k xs) (getRG xs) := by
  refine ⟨xs.length + 1, fun k hk => ?_⟩
  show gatelineref17_Get.f k xs = _
  unfold gatelineref17_Get.f
  have := rget_l0 xs hB hlen (xs.length + 1) k 0 0 [] (by omega) (by omega) (by omega) (by simp; omega)
  rw [List.drop_zero, getRG_pair] at this
  exact this
theorem getG_values (n : Nat) : ∀ (xs : List Int) (last : Int), IsBytes xs → ∀ x ∈ (getG n xs last).1, x.f1.length ≤ 255 ∧ IsBytes x.f1 := by
  induction n with
  | zero => intro xs last _ x hx; simp [getG] at hx
  | succ n ih =>
    intro xs last hB x hx
    have h1 := hB.getD 1
    unfold getG at hx
    split at hx
    · simp at hx
    split at hx
    · simp at hx
    split at hx
    · simp at hx
    split at hx
    · simp at hx
    split at hx
    · rcases List.mem_cons.1 hx with rfl | hx
      · refine ⟨?_, (hB.take _).drop _⟩
        show ((xs.take _).drop 2).length ≤ 255
        rw [List.length_drop, List.length_take]
        omega
      · exact ih _ _ (hB.drop _) x hx
    · simp at hx
theorem getG_length (n : Nat) : ∀ (xs : List Int) (last : Int), (getG n xs last).1.length ≤ n := by
  induction n with
  | zero => intro xs last; simp [getG]
  | succ n ih =>
    intro xs last
    unfold getG
    repeat' split
    all_goals first | (simp; done) | skip
    have := ih (xs.drop (2 + xs.getD 1 0).toNat) (xs.getD 0 0)
    simp only [List.length_cons]
    omega

/-! ### there and back -/
theorem get_putG (l : List S) : ∀ (n : Nat) (last : Int), 0 ≤ last → isG last l = true → (putG l).length < n → getG n (putG l) last = (l, 0) := by
  induction l with
  | nil =>
    intro n last _ _ hn
    obtain ⟨n, rfl⟩ : ∃ q, n = q + 1 := ⟨n - 1, by omega⟩
    rfl
  | cons f l ih =>
    intro n last h0 h hn
    obtain ⟨n, rfl⟩ : ∃ q, n = q + 1 := ⟨n - 1, by omega⟩
    have hv := isG_values (f :: l) last h f (by simp)
    unfold isG at h
    rw [if_neg (by omega)] at h
    rw [putG_cons] at hn ⊢
    have m0 : f.f0 % 256 = f.f0 := by omega
    have m1 : (f.f1.length : Int) % 256 = (f.f1.length : Int) := by omega
    rw [m0, m1] at hn ⊢
    have hl : (f.f0 :: (f.f1.length : Int) :: (f.f1 ++ putG l)).length = 2 + f.f1.length + (putG l).length := by simp only [List.length_cons, List.length_append]; omega
    rw [hl] at hn
    have q0 : (f.f0 :: (f.f1.length : Int) :: (f.f1 ++ putG l)).getD 0 0 = f.f0 := rfl
    have q1 : (f.f0 :: (f.f1.length : Int) :: (f.f1 ++ putG l)).getD 1 0 = (f.f1.length : Int) := rfl
    have q2 : (f.f0 :: (f.f1.length : Int) :: (f.f1 ++ putG l)).drop (2 + (f.f1.length : Int)).toNat = putG l := by
      rw [show (2 + (f.f1.length : Int)).toNat = f.f1.length + 2 by omega]
      simp
    have q3 : ((f.f0 :: (f.f1.length : Int) :: (f.f1 ++ putG l)).take (2 + (f.f1.length : Int)).toNat).drop 2 = f.f1 := by
      rw [show (2 + (f.f1.length : Int)).toNat = f.f1.length + 2 by omega]
      simp
    have e := ih n f.f0 (by omega) h (by omega)
    rw [getG, hl, q0, q1, q2, q3, if_neg (by omega), if_neg (by omega), if_neg (by omega), if_neg (by omega), e, if_pos rfl]
theorem put_getG (n : Nat) : ∀ (xs : List Int) (last : Int) (l : List S), IsBytes xs → xs.length < n → getG n xs last = (l, 0) → isG last l = true ∧ putG l = xs := by
  induction n with
  | zero => intro xs last l _ h; omega
  | succ n ih =>
    intro xs last l hB hn h
    have h0 := hB.getD 0
    have h1 := hB.getD 1
    rw [getG] at h
    by_cases c0 : xs.length = 0
    · rw [if_pos c0] at h
      obtain rfl := (Prod.mk.inj h).1
      exact ⟨rfl, (List.eq_nil_of_length_eq_zero c0).symm⟩
    · rw [if_neg c0] at h
      by_cases c1 : xs.length < 2
      · rw [if_pos c1] at h
        exact absurd (Prod.mk.inj h).2 (by decide)
      · rw [if_neg c1] at h
        by_cases c2 : xs.getD 0 0 ≤ last
        · rw [if_pos c2] at h
          exact absurd (Prod.mk.inj h).2 (by decide)
        · rw [if_neg c2] at h
          by_cases c3 : (xs.length : Int) < 2 + xs.getD 1 0
          · rw [if_pos c3] at h
            exact absurd (Prod.mk.inj h).2 (by decide)
          · rw [if_neg c3] at h
            by_cases c4 : (getG n (xs.drop (2 + xs.getD 1 0).toNat) (xs.getD 0 0)).2 = 0
            · rw [if_pos c4] at h
              obtain rfl := (Prod.mk.inj h).1
              obtain ⟨i1, i2⟩ := ih (xs.drop (2 + xs.getD 1 0).toNat) (xs.getD 0 0) _ (hB.drop _) (by rw [List.length_drop]; omega) (Prod.ext rfl c4)
              have hlen : ((xs.take (2 + xs.getD 1 0).toNat).drop 2).length = (xs.getD 1 0).toNat := by rw [List.length_drop, List.length_take]; omega
              refine ⟨?_, ?_⟩
              · rw [isG, if_neg (by show ¬ (xs.getD 0 0 ≤ last ∨ xs.getD 0 0 > 255 ∨ ((xs.take (2 + xs.getD 1 0).toNat).drop 2).length > 255); omega)]
                exact i1
              · rw [putG_cons, i2]
                show xs.getD 0 0 % 256 :: (((xs.take (2 + xs.getD 1 0).toNat).drop 2).length : Int) % 256 :: (((xs.take (2 + xs.getD 1 0).toNat).drop 2) ++ xs.drop (2 + xs.getD 1 0).toNat) = xs
                rw [hlen, show xs.getD 0 0 % 256 = xs.getD 0 0 by omega, show ((xs.getD 1 0).toNat : Int) % 256 = xs.getD 1 0 by omega]
                clear i1 i2 h c2 c3 c4 hlen ih hn hB
                obtain ⟨a, b, t, rfl⟩ : ∃ a b t, xs = a :: b :: t := by
                  cases xs with
                  | nil => exact absurd rfl c0
                  | cons a xs =>
                    cases xs with
                    | nil => exact absurd (by simp) c1
                    | cons b t => exact ⟨a, b, t, rfl⟩
                show a :: b :: (((a :: b :: t).take (2 + b).toNat).drop 2 ++ (a :: b :: t).drop (2 + b).toNat) = a :: b :: t
                have hb : 0 ≤ b := h1.1
                rw [show (2 + b).toNat = b.toNat + 2 by omega]
                simp
            · rw [if_neg c4] at h
              exact absurd (Prod.mk.inj h).2 c4
end Go.Proofs.Ytekgienbhpknlaa.Q
