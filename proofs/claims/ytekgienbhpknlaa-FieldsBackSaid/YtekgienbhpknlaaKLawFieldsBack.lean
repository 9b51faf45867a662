/- What the functions that this claim reaches do and answer: printed words and walks, walks by hand and plain laws, packed together, each with its own remark; printed rows are by the kit's print program, turned by this session. Conditions: those that each theorem states. -/
import Derived.Deep.MidRow
import Derived.WalkKit
import Derived.ProofKit
import Derived.OpenShut
import Derived.ShutString
import Derived.ChangeOld
import Derived.Below
import Derived.SizedLaws
import Derived.Carry
import Derived.Test.YtekgienbhpknlaaKFs16
import Derived.Test.YtekgienbhpknlaaKFs9
import Derived.Test.YtekgienbhpknlaaKFs11
import Derived.Test.YtekgienbhpknlaaKA1
import Derived.Test.YtekgienbhpknlaaKA3
import Derived.Test.YtekgienbhpknlaaRows
import Derived.Test.YtekgienbhpknlaaKFs6
import Derived.Test.YtekgienbhpknlaaKA2
section
set_option linter.unusedVariables false
namespace Go.Proofs.Ytekgienbhpknlaa.Pure
open Go Go.RowKit Go.Proofs.Ytekgienbhpknlaa.Q Go.Proofs.Ytekgienbhpknlaa.G Go.Proofs.Ytekgienbhpknlaa.PL Go.Proofs.YtekgienbhpknlaaW.PrintWords Go.Proofs.YtekgienbhpknlaaW.PrintLast Go.Proofs.YtekgienbhpknlaaW.PrintMore
theorem finT_bad (c : List Int) (h : (finT c).2 ≠ 0) : (finT c).1 = z15 := by
  unfold finT at h ⊢
  split
  · rfl
  · split
    · rename_i h1 h2; rw [if_neg h1, if_pos h2] at h; exact absurd rfl h
    · rfl
theorem finR_bad (c : List Int) (n : Int) (h : (finR c n).2 ≠ 0) : (finR c n).1 = z15 := by
  unfold finR at h ⊢
  split
  · rfl
  · split
    · rfl
    · split
      · rename_i h1 h2 h3; rw [if_neg h1, if_neg h2, if_pos h3] at h; exact finT_bad c h
      · split
        · rename_i h1 h2 h3 h4; rw [if_neg h1, if_neg h2, if_neg h3, if_pos h4] at h; exact finT_bad _ h
        · rfl
theorem fgL_bad : ∀ (l : List SF) (c : List Int) (n : Int), (fgL l c n).2 ≠ 0 → (fgL l c n).1 = z15
  | [], c, n, h => finR_bad c n h
  | f :: fs, c, n, h => by
    rw [fgL] at h ⊢
    split
    · rfl
    · split
      · rfl
      · split
        · rename_i h1 h2 h3; rw [if_neg h1, if_neg h2, if_pos h3] at h; exact fgL_bad fs _ _ h
        · rfl
theorem fget_bad (l : List SF) (h : (fgetR l).2 ≠ 0) : (fgetR l).1 = z15 := by
  unfold fgetR at h ⊢
  split
  · rename_i h1; rw [if_pos h1] at h; exact fgL_bad l _ _ h
  · rfl
def cU (e : Int → Int) (t : Int) : List Int := [if (4 : Int) < t then e 4 else 0, if (3 : Int) < t then e 3 else 0, if (5 : Int) < t then e 5 else 0, if (6 : Int) < t then e 6 else 0, if (7 : Int) < t then e 7 else 0, if (8 : Int) < t then e 8 else 0, if (9 : Int) < t then e 9 else 0, if (10 : Int) < t then e 10 else 0, if (11 : Int) < t then e 11 else 0, if (12 : Int) < t then e 12 else 0, if (13 : Int) < t then e 13 else 0, if (2 : Int) < t then e 2 else 0, 0, 0, if (1 : Int) < t then e 1 else 0]
theorem cU_set (e : Int → Int) (tag : Int) (h1 : 1 ≤ tag) (h2 : tag ≤ 13) : (cU e tag).set (offT tag) (e tag) = cU e (tag + 1) := by
  have : tag = 1 ∨ tag = 2 ∨ tag = 3 ∨ tag = 4 ∨ tag = 5 ∨ tag = 6 ∨ tag = 7 ∨ tag = 8 ∨ tag = 9 ∨ tag = 10 ∨ tag = 11 ∨ tag = 12 ∨ tag = 13 := by omega
  rcases this with rfl | rfl | rfl | rfl | rfl | rfl | rfl | rfl | rfl | rfl | rfl | rfl | rfl <;> rfl
theorem cU_skip (e : Int → Int) (tag : Int) (h1 : 1 ≤ tag) (h2 : tag ≤ 13) (h0 : e tag = 0) : cU e (tag + 1) = cU e tag := by
  rw [← cU_set e tag h1 h2, h0]
  have : tag = 1 ∨ tag = 2 ∨ tag = 3 ∨ tag = 4 ∨ tag = 5 ∨ tag = 6 ∨ tag = 7 ∨ tag = 8 ∨ tag = 9 ∨ tag = 10 ∨ tag = 11 ∨ tag = 12 ∨ tag = 13 := by omega
  rcases this with rfl | rfl | rfl | rfl | rfl | rfl | rfl | rfl | rfl | rfl | rfl | rfl | rfl <;> rfl
def lst (e : Int → Int) : Nat → Int → Int → Int
  | 0, _, n => n
  | d + 1, tag, n => if e tag = 0 then lst e d (tag + 1) n else lst e d (tag + 1) (mx n (verT tag))
theorem fgL_flds (e : Int → Int) : ∀ (d : Nat) (tag n : Int), 1 ≤ tag → tag + d = 14 → (∀ t, tag ≤ t → t < tag + d → e t ≠ 0 → valR (numR (e t)).1 = (e t, 0)) → fgL (flds e d tag) (cU e tag) n = finR (cU e 14) (lst e d tag n)
  | 0, tag, n, h1, h2, _ => by
    obtain rfl : tag = 14 := by omega
    rfl
  | d + 1, tag, n, h1, h2, hv => by
    have ih := fun n' => fgL_flds e d (tag + 1) n' (by omega) (by omega) (fun t a b => hv t (by omega) (by omega))
    rw [flds, lst]
    by_cases h0 : e tag = 0
    · rw [if_pos h0, if_pos h0, ← cU_skip e tag h1 (by omega) h0]
      exact ih n
    · have hval := hv tag (by omega) (by omega) h0
      rw [if_neg h0, if_neg h0, fgL, if_neg (by show ¬ 128 ≤ tag; omega), if_neg (by show ¬ (tag < 1 ∨ 13 < tag); omega)]
      show (if (valR (numR (e tag)).1).2 = 0 then fgL (flds e d (tag + 1)) ((cU e tag).set (offT tag) (valR (numR (e tag)).1).1) (mx n (verT tag)) else _) = _
      rw [hval, if_pos rfl, cU_set e tag h1 (by omega)]
      exact ih _
theorem lst_le (e : Int → Int) (v : Int) : ∀ (d : Nat) (tag n : Int), lst e d tag n ≤ v ↔ n ≤ v ∧ bad e v d tag = false
  | 0, tag, n => by simp [lst, bad]
  | d + 1, tag, n => by
    rw [lst, bad, Bool.or_eq_false_iff]
    by_cases h0 : e tag = 0
    · rw [if_pos h0, lst_le e v d (tag + 1) n, h0]
      simp
    · rw [if_neg h0, lst_le e v d (tag + 1) (mx n (verT tag))]
      have : mx n (verT tag) ≤ v ↔ n ≤ v ∧ ¬ v < verT tag := by unfold mx; split <;> omega
      rw [this]
      simp [h0, and_assoc]
theorem isG_flds (e : Int → Int) : ∀ (d : Nat) (tag last : Int), last < tag → tag + d ≤ 256 → isG last (flds e d tag) = true
  | 0, _, _, _, _ => rfl
  | d + 1, tag, last, h1, h2 => by
    rw [flds]
    split
    · exact isG_flds e d (tag + 1) last (by omega) (by omega)
    · rw [isG, if_neg]
      · exact isG_flds e d (tag + 1) tag (by omega) (by omega)
      · have := numR_length (e tag)
        show ¬ (tag ≤ last ∨ tag > 255 ∨ (numR (e tag)).1.length > 255)
        omega
theorem numR_short (n : Int) (h0 : 0 ≤ n) (h1 : n ≤ 1099511627776) : (numR n).1.length ≤ 7 := by
  obtain ⟨N, rfl⟩ : ∃ N : Nat, n = (N : Int) := ⟨n.toNat, by omega⟩
  unfold numR
  rw [if_neg (by omega)]
  show (strip (be (N : Int) (7 + 1))).length ≤ 7
  rw [strip_be_more N 7 (by rw [pow256_7]; omega) 1]
  exact Nat.le_trans (strip_length _) (by rw [be_length]; exact Nat.le_refl _)
theorem cU_end (e : Int → Int) : cU e 14 = [e 4, e 3, e 5, e 6, e 7, e 8, e 9, e 10, e 11, e 12, e 13, e 2, 0, 0, e 1] := rfl
theorem uses_told (k u : Int) (h : usesB k u = true) (h4 : k ≠ 4) (h5 : 1 ≤ k ∧ k ≤ 4) : Int.tmod k 3 = u := by
  have : k = 1 ∨ k = 2 ∨ k = 3 := by omega
  rcases this with rfl | rfl | rfl <;> (simp [usesB] at h; subst h; rfl)
theorem get_put {v0 v1 v2 v3 v4 v5 v6 v7 v8 v9 v10 v11 v12 v13 v14 : Int} (h : (fputR v0 v1 v2 v3 v4 v5 v6 v7 v8 v9 v10 v11 v12 v13 v14).2 = 0) : fgetR (fputR v0 v1 v2 v3 v4 v5 v6 v7 v8 v9 v10 v11 v12 v13 v14).1 = ([v0, v1, v2, v3, v4, v5, v6, v7, v8, v9, v10, v11, v12, v13, v14], 0) ∧ isG 0 (fputR v0 v1 v2 v3 v4 v5 v6 v7 v8 v9 v10 v11 v12 v13 v14).1 = true ∧ okF (fputR v0 v1 v2 v3 v4 v5 v6 v7 v8 v9 v10 v11 v12 v13 v14).1 = true := by
  obtain ⟨hk, hb, ha⟩ := fput_yes h
  have hG : isG 0 (flds (eff v0 v1 v2 v3 v4 v5 v6 v7 v8 v9 v10 v11 v12 v13 v14) 13 1) = true := isG_flds _ 13 1 0 (by omega) (by omega)
  rw [ha]
  refine ⟨?_, hG, okF_of fun f hf => by rw [(flds_values _ _ _ f hf).2.2.2]; exact numR_bytes _⟩
  unfold fgetR
  rw [if_pos hG]
  have hz : z15 = cU (eff v0 v1 v2 v3 v4 v5 v6 v7 v8 v9 v10 v11 v12 v13 v14) 1 := rfl
  rw [hz, fgL_flds (eff v0 v1 v2 v3 v4 v5 v6 v7 v8 v9 v10 v11 v12 v13 v14) 13 1 1 (by omega) (by omega) (fun t h1 h2 h0 => by
    have hh := eff_bounds hk t h1 (by omega)
    exact val_num _ (by omega) (by omega) (numR_short _ hh.1 hh.2)), cU_end]
  obtain ⟨hI, hk0, hk1, rfl, rfl, hv0, hv1⟩ := id hk
  have hl := (lst_le (eff v0 v1 v2 v3 v4 v5 v6 v7 v8 v9 v10 v11 0 0 v14) v14 13 1 1).2 ⟨hv0, hb⟩
  have hu := ((isB_iff v0 v1 v2 v3 v4 v5 v6 v7 v8 v9 v10).1 hI).2.2
  have hbd := isB_bounds hI
  unfold finR
  show (if v14 < lst (eff v0 v1 v2 v3 v4 v5 v6 v7 v8 v9 v10 v11 0 0 v14) 13 1 1 then (z15, 12) else if 3 < v14 then (z15, 12) else if v1 = 4 then finT [v0, v1, v2, v3, v4, v5, v6, v7, v8, eff v0 v1 v2 v3 v4 v5 v6 v7 v8 v9 v10 v11 0 0 v14 12, v10, v11, 0, 0, v14] else if eff v0 v1 v2 v3 v4 v5 v6 v7 v8 v9 v10 v11 0 0 v14 12 = 0 then finT ([v0, v1, v2, v3, v4, v5, v6, v7, v8, Int.tmod v1 3, v10, v11, 0, 0, v14]) else (z15, 9)) = _
  rw [if_neg (show ¬ v14 < lst (eff v0 v1 v2 v3 v4 v5 v6 v7 v8 v9 v10 v11 0 0 v14) 13 1 1 by omega), if_neg (show ¬ 3 < v14 by omega)]
  by_cases h4 : v1 = 4
  · have e12 : eff v0 v1 v2 v3 v4 v5 v6 v7 v8 v9 v10 v11 0 0 v14 12 = v9 := if_neg (fun hh => hh.2 h4)
    rw [if_pos h4, e12]
    show (if 100 ≤ v11 then (z15, 9) else if isB v0 v1 v2 v3 v4 v5 v6 v7 v8 v9 v10 = true then ([v0, v1, v2, v3, v4, v5, v6, v7, v8, v9, v10, v11, 0, 0, v14], 0) else (z15, 9)) = _
    rw [if_neg (show ¬ 100 ≤ v11 by omega), if_pos (show isB v0 v1 v2 v3 v4 v5 v6 v7 v8 v9 v10 = true from hI)]
  · have e12 : eff v0 v1 v2 v3 v4 v5 v6 v7 v8 v9 v10 v11 0 0 v14 12 = 0 := if_pos ⟨rfl, h4⟩
    rw [if_neg h4, if_pos e12, uses_told v1 v9 hu h4 hbd.2.1]
    show (if 100 ≤ v11 then (z15, 9) else if isB v0 v1 v2 v3 v4 v5 v6 v7 v8 v9 v10 = true then ([v0, v1, v2, v3, v4, v5, v6, v7, v8, v9, v10, v11, 0, 0, v14], 0) else (z15, 9)) = _
    rw [if_neg (show ¬ 100 ≤ v11 by omega), if_pos (show isB v0 v1 v2 v3 v4 v5 v6 v7 v8 v9 v10 = true from hI)]
def eOf (l : List SF) (tag : Int) : Int := match l.find? (fun f => decide (f.f0 = tag)) with
  | some f => (valR f.f1).1
  | none => 0
theorem eOf_nil (t : Int) : eOf [] t = 0 := rfl
theorem eOf_head (f : SF) (fs : List SF) : eOf (f :: fs) f.f0 = (valR f.f1).1 := by unfold eOf; rw [List.find?_cons_of_pos (by simp)]
theorem eOf_skip (f : SF) (fs : List SF) (t : Int) (h : f.f0 ≠ t) : eOf (f :: fs) t = eOf fs t := by unfold eOf; rw [List.find?_cons_of_neg (by simpa using h)]
theorem eOf_far : ∀ (fs : List SF) (last t : Int), isG last fs = true → t ≤ last → eOf fs t = 0
  | [], _, t, _, _ => rfl
  | f :: fs, last, t, h, ht => by
    have hv := (isG_values (f :: fs) last h f (by simp)).1
    have h2 : isG f.f0 fs = true := by
      rw [isG] at h
      split at h
      · cases h
      · exact h
    rw [eOf_skip f fs t (by omega)]
    exact eOf_far fs f.f0 t h2 (by omega)
def Good (f : SF) : Prop := 1 ≤ f.f0 ∧ f.f0 ≤ 13 ∧ (valR f.f1).2 = 0 ∧ IsBytes f.f1
theorem eOf_mem : ∀ (l : List SF) (t : Int), (∀ f ∈ l, Good f) → eOf l t = 0 ∨ (0 < eOf l t ∧ valR (numR (eOf l t)).1 = (eOf l t, 0))
  | [], t, _ => .inl rfl
  | f :: fs, t, h => by
    by_cases hf : f.f0 = t
    · subst hf
      rw [eOf_head]
      have hg := h f (by simp)
      have hn := num_val f.f1 hg.2.2.2 hg.2.2.1
      refine .inr ⟨hn.1, ?_⟩
      rw [hn.2.2]
      exact Prod.ext rfl hg.2.2.1
    · rw [eOf_skip f fs t hf]
      exact eOf_mem fs t (fun g hg => h g (List.mem_cons_of_mem _ hg))
theorem flds_zero (e : Int → Int) : ∀ (d : Nat) (tag : Int), (∀ t, e t = 0) → flds e d tag = []
  | 0, _, _ => rfl
  | d + 1, tag, h => by rw [flds, if_pos (h tag)]; exact flds_zero e d (tag + 1) h
theorem flds_of : ∀ (d : Nat) (tag : Int) (l : List SF), 1 ≤ tag → tag + d = 14 → isG (tag - 1) l = true → (∀ f ∈ l, Good f) → flds (eOf l) d tag = l
  | 0, tag, l, h1, h2, hG, hg => by
    cases l with
    | nil => rfl
    | cons f fs =>
      have a := (isG_values (f :: fs) (tag - 1) hG f (by simp)).1
      have b := (hg f (by simp)).2.1
      omega
  | d + 1, tag, [], h1, h2, hG, hg => flds_zero _ _ _ eOf_nil
  | d + 1, tag, f :: fs, h1, h2, hG, hg => by
    have hv := (isG_values (f :: fs) (tag - 1) hG f (by simp)).1
    have h2' : isG f.f0 fs = true ∧ ¬ (f.f0 > 255 ∨ f.f1.length > 255) := by
      rw [isG] at hG
      split at hG
      · cases hG
      · rename_i hn; exact ⟨hG, by omega⟩
    rw [flds]
    by_cases ht : f.f0 = tag
    · subst ht
      have hgf := hg f (by simp)
      have hn := num_val f.f1 hgf.2.2.2 hgf.2.2.1
      rw [eOf_head, if_neg (by omega), hn.2.2, flds_congr d (f.f0 + 1) (fun t a b => eOf_skip f fs t (by omega)), flds_of d (f.f0 + 1) fs (by omega) (by omega) (by rw [show f.f0 + 1 - 1 = f.f0 by omega]; exact h2'.1) (fun g hg' => hg g (List.mem_cons_of_mem _ hg'))]
    · have e0 : eOf (f :: fs) tag = 0 := by
        rw [eOf_skip f fs tag ht]
        exact eOf_far fs f.f0 tag h2'.1 (by omega)
      rw [if_pos e0]
      refine flds_of d (tag + 1) (f :: fs) (by omega) (by omega) ?_ hg
      rw [isG, if_neg (by omega)]
      exact h2'.1
theorem fgL_good : ∀ (l : List SF) (c : List Int) (n : Int), (fgL l c n).2 = 0 → ∀ f ∈ l, 1 ≤ f.f0 ∧ f.f0 ≤ 13 ∧ (valR f.f1).2 = 0
  | [], _, _, _, f, hf => by cases hf
  | g :: gs, c, n, h, f, hf => by
    rw [fgL] at h
    split at h
    · exact absurd h (by decide)
    · split at h
      · exact absurd h (by decide)
      · split at h
        · rename_i h1 h2 h3
          rcases List.mem_cons.1 hf with rfl | hf
          · exact ⟨by omega, by omega, h3⟩
          · exact fgL_good gs _ _ h f hf
        · rename_i h1 h2 h3; exact absurd h h3
theorem put_get (l : List SF) (hby : ∀ f ∈ l, IsBytes f.f1) (v0 v1 v2 v3 v4 v5 v6 v7 v8 v9 v10 v11 v12 v13 v14 : Int) (h : fgetR l = ([v0, v1, v2, v3, v4, v5, v6, v7, v8, v9, v10, v11, v12, v13, v14], 0)) : fputR v0 v1 v2 v3 v4 v5 v6 v7 v8 v9 v10 v11 v12 v13 v14 = (l, 0) ∧ isB v0 v1 v2 v3 v4 v5 v6 v7 v8 v9 v10 = true := by
  have hG : isG 0 l = true := by
    cases hc : isG 0 l
    · unfold fgetR at h
      rw [hc, if_neg (by decide)] at h
      exact absurd (congrArg Prod.snd h) (by simp)
    · rfl
  unfold fgetR at h
  rw [if_pos hG] at h
  have hgood : ∀ f ∈ l, Good f := fun f hf => by
    have := fgL_good l z15 1 (by rw [h]) f hf
    exact ⟨this.1, this.2.1, this.2.2, hby f hf⟩
  have hl := flds_of 13 1 l (by omega) (by omega) hG hgood
  obtain ⟨e, he⟩ : ∃ e, e = eOf l := ⟨_, rfl⟩
  have hm := fun t => eOf_mem l t hgood
  rw [← he] at hl hm
  have hF := fgL_flds e 13 1 1 (by omega) (by omega) (fun t _ _ h0 => ((hm t).resolve_left h0).2)
  rw [hl, show cU e 1 = z15 from rfl, h, cU_end] at hF
  have hpos : ∀ t, 0 ≤ e t := fun t => by rcases hm t with h0 | h0 <;> omega
  unfold finR at hF
  by_cases a1 : e 1 < lst e 13 1 1
  · rw [if_pos (show ([e 4, e 3, e 5, e 6, e 7, e 8, e 9, e 10, e 11, e 12, e 13, e 2, 0, 0, e 1] : List Int).getD 14 0 < lst e 13 1 1 from a1)] at hF; exact absurd (congrArg Prod.snd hF) (by simp)
  rw [if_neg (show ¬ ([e 4, e 3, e 5, e 6, e 7, e 8, e 9, e 10, e 11, e 12, e 13, e 2, 0, 0, e 1] : List Int).getD 14 0 < lst e 13 1 1 from a1)] at hF
  by_cases a2 : 3 < e 1
  · rw [if_pos (show 3 < ([e 4, e 3, e 5, e 6, e 7, e 8, e 9, e 10, e 11, e 12, e 13, e 2, 0, 0, e 1] : List Int).getD 14 0 from a2)] at hF; exact absurd (congrArg Prod.snd hF) (by simp)
  rw [if_neg (show ¬ 3 < ([e 4, e 3, e 5, e 6, e 7, e 8, e 9, e 10, e 11, e 12, e 13, e 2, 0, 0, e 1] : List Int).getD 14 0 from a2)] at hF
  have hle := (lst_le e (e 1) 13 1 1).1 (by omega)
  replace hF : ([v0, v1, v2, v3, v4, v5, v6, v7, v8, v9, v10, v11, v12, v13, v14], (0 : Int)) = if e 3 = 4 then finT [e 4, e 3, e 5, e 6, e 7, e 8, e 9, e 10, e 11, e 12, e 13, e 2, 0, 0, e 1] else if e 12 = 0 then finT [e 4, e 3, e 5, e 6, e 7, e 8, e 9, e 10, e 11, Int.tmod (e 3) 3, e 13, e 2, 0, 0, e 1] else (z15, 9) := hF
  have fin : ∀ x9 : Int, ([v0, v1, v2, v3, v4, v5, v6, v7, v8, v9, v10, v11, v12, v13, v14], (0 : Int)) = finT [e 4, e 3, e 5, e 6, e 7, e 8, e 9, e 10, e 11, x9, e 13, e 2, 0, 0, e 1] → (e 3 = 4 → x9 = e 12) → (e 3 ≠ 4 → e 12 = 0) → fputR v0 v1 v2 v3 v4 v5 v6 v7 v8 v9 v10 v11 v12 v13 v14 = (l, 0) ∧ isB v0 v1 v2 v3 v4 v5 v6 v7 v8 v9 v10 = true := by
    intro x9 hf hx hy
    unfold finT at hf
    by_cases b1 : 100 ≤ e 2
    · rw [if_pos (show 100 ≤ ([e 4, e 3, e 5, e 6, e 7, e 8, e 9, e 10, e 11, x9, e 13, e 2, 0, 0, e 1] : List Int).getD 11 0 from b1)] at hf; exact absurd (congrArg Prod.snd hf) (by simp)
    rw [if_neg (show ¬ 100 ≤ ([e 4, e 3, e 5, e 6, e 7, e 8, e 9, e 10, e 11, x9, e 13, e 2, 0, 0, e 1] : List Int).getD 11 0 from b1)] at hf
    by_cases b2 : isB (e 4) (e 3) (e 5) (e 6) (e 7) (e 8) (e 9) (e 10) (e 11) x9 (e 13) = true
    · rw [if_pos (show isC [e 4, e 3, e 5, e 6, e 7, e 8, e 9, e 10, e 11, x9, e 13, e 2, 0, 0, e 1] = true from b2)] at hf
      have hc := congrArg Prod.fst hf
      simp only [List.cons.injEq, and_true] at hc
      obtain ⟨r0, r1, r2, r3, r4, r5, r6, r7, r8, r9, r10, r11, r12, r13, r14⟩ := hc
      have hk : okR (e 4) (e 3) (e 5) (e 6) (e 7) (e 8) (e 9) (e 10) (e 11) x9 (e 13) (e 2) 0 0 (e 1) := ⟨b2, hpos 2, by omega, rfl, rfl, hle.1, by omega⟩
      have hef : ∀ tag : Int, 1 ≤ tag → tag < 1 + (13 : Nat) → eff (e 4) (e 3) (e 5) (e 6) (e 7) (e 8) (e 9) (e 10) (e 11) x9 (e 13) (e 2) 0 0 (e 1) tag = e tag := by
        intro tag h1 h2
        by_cases h12 : tag = 12
        · subst h12
          by_cases h4 : e 3 = 4
          · rw [eff, if_neg (fun hh => hh.2 h4)]; exact hx h4
          · rw [eff, if_pos ⟨rfl, h4⟩, hy h4]
        · rw [eff, if_neg (fun hh => h12 hh.1)]
          have : tag = 1 ∨ tag = 2 ∨ tag = 3 ∨ tag = 4 ∨ tag = 5 ∨ tag = 6 ∨ tag = 7 ∨ tag = 8 ∨ tag = 9 ∨ tag = 10 ∨ tag = 11 ∨ tag = 12 ∨ tag = 13 := by omega
          rcases this with rfl | rfl | rfl | rfl | rfl | rfl | rfl | rfl | rfl | rfl | rfl | rfl | rfl <;> first | rfl | exact absurd rfl h12
      subst r0 r1 r2 r3 r4 r5 r6 r7 r8 r9 r10 r11 r12 r13 r14
      refine ⟨?_, b2⟩
      rw [fput_ok_eq hk, if_neg (by rw [bad_congr 13 1 (fun t h1 h2 => (hef t h1 h2).symm) (Int.le_refl _) hle.2]; decide), flds_congr 13 1 hef, hl]
    · rw [if_neg (show ¬ isC [e 4, e 3, e 5, e 6, e 7, e 8, e 9, e 10, e 11, x9, e 13, e 2, 0, 0, e 1] = true from b2)] at hf; exact absurd (congrArg Prod.snd hf) (by simp)
  by_cases h4 : e 3 = 4
  · rw [if_pos h4] at hF
    exact fin (e 12) hF (fun _ => rfl) (fun hn => absurd h4 hn)
  · rw [if_neg h4] at hF
    by_cases h12 : e 12 = 0
    · rw [if_pos h12] at hF
      exact fin (Int.tmod (e 3) 3) hF (fun hn => absurd hn h4) (fun _ => h12)
    · rw [if_neg h12] at hF; exact absurd (congrArg Prod.snd hF) (by simp)
end Go.Proofs.Ytekgienbhpknlaa.Pure
end
section
set_option linter.unusedVariables false
set_option linter.unusedSimpArgs false
namespace Go.Proofs.Ytekgienbhpknlaa.G
open Go Go.RowKit Go.Proofs.YtekgienbhpknlaaW.PrintWords Go.Proofs.YtekgienbhpknlaaW.PrintLast Go.Proofs.YtekgienbhpknlaaW.PrintMore Go.Proofs.Ytekgienbhpknlaa.PL Go.Proofs.Ytekgienbhpknlaa.Q Go.Proofs.Ytekgienbhpknlaa.Pure
section
variable {P : Program} {ops : Array Oper} {rest : List Oper} {o : Oper} {a : Act} {w : World} {Q : Exit → Act → World → Prop}
theorem wpList_on (hw : Region.wanted o (yielded ops a.tmps) = true) (h : ∀ K : Act → World → Prop, (∀ a' w', wpList P ops Q rest a' w' → K a' w') → o.wp P a w K Q) : wpList P ops Q (o :: rest) a w := by
  simp only [wpList, hw, if_true]
  exact .inl (h _ fun _ _ h => h)
theorem wpList_load_on (hw : Region.wanted o (yielded ops a.tmps) = true) (ty : TypeId) (x : Operand) (ho : o.op = .load ty x) (b : Nat) (hx : a.eval x = .pointer (some ⟨b, 0, none⟩)) (cs : List Value) (d : TypeDesc) (hc : w.rangeAt b 0 cs)
    (hu : P.underlying ty = some d) (hd : d.isRow = true) (hi : (P.info? ty).map (·.size) = some cs.length) (h : wpList P ops Q rest (a.put o.dst (.agg cs.toArray)) w) : wpList P ops Q (o :: rest) a w :=
  wpList_on hw fun _ hK => wp_load_mid ty x ho b 0 hx cs d hc hu hd hi (hK _ _ h)
theorem wpList_build_on (hw : Region.wanted o (yielded ops a.tmps) = true) (t : TypeId) (parts : Array (Nat × Operand)) (ho : o.op = .build t parts) (cs : Array Value) (hf : P.built t (parts.map fun (i, x) => (i, a.eval x)).toList = some cs)
    (h : wpList P ops Q rest (a.put o.dst (.agg cs)) w) : wpList P ops Q (o :: rest) a w :=
  wpList_on hw fun _ hK => wp_build t parts ho (by rw [hf]; rfl) (hK _ _ (by rw [hf]; exact h))
end
theorem eqRead (v0 v1 v2 v3 v4 v5 v6 v7 v8 v9 v10 v11 v12 v13 v14 : Int) (d : Nat) (w : World) : (Op.equalIn (d + 3) 46 (.agg (intsA [v0, v1, v2, v3, v4, v5, v6, v7, v8, v9, v10, v11, v12, v13, v14])) (.agg (intsA [v0, v1, v2, v3, v4, v5, v6, v7, v8, v9, v10, v11, v12, v13, v14]))).run Try.prog w = .ok true w :=
  (eqA46 d w v0 v0 v1 v1 v2 v2 v3 v3 v4 v4 v5 v5 v6 v6 v7 v7 v8 v8 v9 v9 v10 v10 v11 v11 v12 v12 v13 v13 v14 v14).trans (by simp)
theorem eqRead2 (v0 v1 v2 v3 v4 v5 v6 v7 v8 v9 v10 v11 v12 v13 v14 : Int) (d : Nat) (w : World) : (Op.equalIn (d + 3) 46 (.agg ([v0, v1, v2, v3, v4, v5, v6, v7, v8, v9, v10, v11, v12, v13, v14].map (Value.int .i64)).toArray) (.agg ([v0, v1, v2, v3, v4, v5, v6, v7, v8, v9, v10, v11, v12, v13, v14].map (Value.int .i64)).toArray)).run Try.prog w = .ok true w := eqRead v0 v1 v2 v3 v4 v5 v6 v7 v8 v9 v10 v11 v12 v13 v14 d w
theorem eqZero (d : Nat) (w : World) : (Op.equalIn (d + 3) 46 (.agg (z15.map (Value.int .i64)).toArray) (.agg (intsA z15))).run Try.prog w = .ok true w := eqRead 0 0 0 0 0 0 0 0 0 0 0 0 0 0 0 d w
theorem range_ints {W : World} {b n : Nat} {l : List Int} {t : TypeId} (h : Blk W b (intsA l) t) : W.rangeAt b 0 ((l.take n).map (Value.int .i64)) := fun j u hu => by
  rw [Nat.zero_add]
  have hj : ((l.take n).map (Value.int .i64))[j]? = some u := hu
  rw [List.getElem?_map, List.getElem?_take] at hj
  split at hj
  · exact h.cell j u (by simpa [intsA] using hj)
  · simp at hj
theorem big_any (A : Option Addr) (c : Nat) (l : List SF) (w : World) (hr : Kd.C k40 w A l.length l) (hc : l.length ≤ c) :
    Calls Try.prog 14 #[.slice A l.length c] w fun e w' => e = .returned (.bool (bigR l)) ∧ Below w.heap.size w w' := by
  obtain ⟨K, h⟩ := big_ev l
  refine (gatelineref17_Big.calls K A c l _ w hr hc (h K (Nat.le_refl _))).mono ?_
  rintro e w' ⟨he, nd, rfl⟩
  exact ⟨he, pw_below_drewN (Below.refl _ _) nd⟩
/-- What came of fields: nothing, or a reading that is put as they are. -/
structure Got (l : List SF) (q0 q1 q2 q3 q4 q5 q6 q7 q8 q9 q10 q11 q12 q13 q14 : Int) (e : Int) : Prop where
  get : fgetR l = ([q0, q1, q2, q3, q4, q5, q6, q7, q8, q9, q10, q11, q12, q13, q14], e)
  bad : e ≠ 0 → ([q0, q1, q2, q3, q4, q5, q6, q7, q8, q9, q10, q11, q12, q13, q14] : List Int) = z15
  ok : e = 0 → fputR q0 q1 q2 q3 q4 q5 q6 q7 q8 q9 q10 q11 q12 q13 q14 = (l, 0) ∧ isB q0 q1 q2 q3 q4 q5 q6 q7 q8 q9 q10 = true
theorem got (l : List SF) (hby : ∀ f ∈ l, IsBytes f.f1) : ∃ q0 q1 q2 q3 q4 q5 q6 q7 q8 q9 q10 q11 q12 q13 q14 e, Got l q0 q1 q2 q3 q4 q5 q6 q7 q8 q9 q10 q11 q12 q13 q14 e := by
  obtain ⟨q0, q1, q2, q3, q4, q5, q6, q7, q8, q9, q10, q11, q12, q13, q14, hv⟩ := list15 (fgetR_len l)
  refine ⟨q0, q1, q2, q3, q4, q5, q6, q7, q8, q9, q10, q11, q12, q13, q14, (fgetR l).2, ⟨by rw [← hv], fun h => by rw [← hv]; exact fget_bad l h, fun h => put_get l hby q0 q1 q2 q3 q4 q5 q6 q7 q8 q9 q10 q11 q12 q13 q14 (by rw [← hv, ← h])⟩⟩
set_option maxRecDepth 100000 in
set_option maxHeartbeats 8000000 in
theorem fieldsBack_any (v0 v1 v2 v3 v4 v5 v6 v7 v8 v9 v10 v11 v12 v13 v14 : Int) (A1 : Option Addr) (c1 : Nat) (l : List SF) (w : World) (hr : Kd.C k40 w A1 l.length l) (hc : l.length ≤ c1) (hby : ∀ f ∈ l, IsBytes f.f1) : Calls Try.prog 11 #[.agg #[.int .i64 v0, .int .i64 v1, .int .i64 v2, .int .i64 v3, .int .i64 v4, .int .i64 v5, .int .i64 v6, .int .i64 v7, .int .i64 v8, .int .i64 v9, .int .i64 v10, .int .i64 v11, .int .i64 v12, .int .i64 v13, .int .i64 v14], .slice A1 l.length c1] w fun e w' => e = .returned (.bool true) ∧ Below w.heap.size w w' := by
  have HR := Aside0.mk hr
  have HC := Aside0.mk hc
  have HBY := Aside0.mk hby
  clear hr hc hby
  go_enter Try.func11, Try.ntmps11
  go_upto_region 1 with (first | fail)
  have g2 : Blk (w.alloc (.cells #[.int .i64 v0, .int .i64 v1, .int .i64 v2, .int .i64 v3, .int .i64 v4, .int .i64 v5, .int .i64 v6, .int .i64 v7, .int .i64 v8, .int .i64 v9, .int .i64 v10, .int .i64 v11, .int .i64 v12, .int .i64 v13, .int .i64 v14] 46)) w.heap.size (intsA [v0, v1, v2, v3, v4, v5, v6, v7, v8, v9, v10, v11, v12, v13, v14]) 46 := Blk.new w #[.int .i64 v0, .int .i64 v1, .int .i64 v2, .int .i64 v3, .int .i64 v4, .int .i64 v5, .int .i64 v6, .int .i64 v7, .int .i64 v8, .int .i64 v9, .int .i64 v10, .int .i64 v11, .int .i64 v12, .int .i64 v13, .int .i64 v14] 46
  have gb := below_alloc (Below.refl w.heap.size w) (.cells #[.int .i64 v0, .int .i64 v1, .int .i64 v2, .int .i64 v3, .int .i64 v4, .int .i64 v5, .int .i64 v6, .int .i64 v7, .int .i64 v8, .int .i64 v9, .int .i64 v10, .int .i64 v11, .int .i64 v12, .int .i64 v13, .int .i64 v14] 46)
  obtain ⟨n2, hn2⟩ : ∃ n, n = w.heap.size := ⟨_, rfl⟩
  have HN0 := Aside0.mk hn2
  generalize w.alloc (.cells #[.int .i64 v0, .int .i64 v1, .int .i64 v2, .int .i64 v3, .int .i64 v4, .int .i64 v5, .int .i64 v6, .int .i64 v7, .int .i64 v8, .int .i64 v9, .int .i64 v10, .int .i64 v11, .int .i64 v12, .int .i64 v13, .int .i64 v14] 46) = U0 at *
  rw [← hn2] at g2 gb
  try rw [← hn2]
  clear hn2
  have G2 := Aside0.mk g2
  have GB := Aside0.mk gb
  clear g2 gb
  have gp := fun h => get_put (h : (fputR v0 v1 v2 v3 v4 v5 v6 v7 v8 v9 v10 v11 v12 v13 v14).2 = 0)
  have hsh := fputR_short v0 v1 v2 v3 v4 v5 v6 v7 v8 v9 v10 v11 v12 v13 v14
  obtain ⟨L, hL⟩ : ∃ L, L = (fputR v0 v1 v2 v3 v4 v5 v6 v7 v8 v9 v10 v11 v12 v13 v14).1 := ⟨_, rfl⟩
  obtain ⟨E, hE⟩ : ∃ E, E = (fputR v0 v1 v2 v3 v4 v5 v6 v7 v8 v9 v10 v11 v12 v13 v14).2 := ⟨_, rfl⟩
  have fA := fput_A v0 v1 v2 v3 v4 v5 v6 v7 v8 v9 v10 v11 v12 v13 v14
  rw [← hL, ← hE] at fA
  rw [← hL, ← hE] at gp
  rw [← hL] at hsh
  have FA := Aside0.mk fA
  have HGP := Aside0.mk gp
  have HSH := Aside0.mk hsh.1
  clear hL hE fA gp hsh
  go_upto_region 2 with (first
    | (refine wpList_load_str rfl 46 (.tmp 2) rfl n2 rfl 46 (intsA [v0, v1, v2, v3, v4, v5, v6, v7, v8, v9, v10, v11, v12, v13, v14]) _ G2.out Try.underlying46 (by kernel_rfl) ?_)
    | (go_at_call 28; refine (FA.out U0).mono ?_; rintro e w1 ⟨A2, c2, rfl, hc2, hC2, hb⟩; have P2 := Aside0.mk (G2.out.below hb G2.out.lt); have PB := Aside0.mk (GB.out.trans (hb.mono (Nat.le_of_lt G2.out.lt))); have C2 := Aside0.mk hC2; have L2 := Aside0.mk hc2; clear hc2 hC2 hb G2 GB FA))
  by_cases hE0 : E = 0
  · have hg := HGP.out hE0
    subst hE0
    have HG1 := Aside0.mk hg.1
    have HG2 := Aside0.mk hg.2.1
    have HG3 := Aside0.mk (okF_bytes hg.2.2)
    have er := eqRead2 v0 v1 v2 v3 v4 v5 v6 v7 v8 v9 v10 v11 v12 v13 v14
    have hgi := hg.2.1
    clear hg HGP
    go_upto_region 4 with (first
      | (go_at_call 33; refine (fget_any A2 c2 L _ C2.out L2.out HG3.out (by have := HSH.out; omega)).mono ?_; rintro e w2 ⟨rfl, hb⟩; rw [HG1.out]; have Q2 := Aside0.mk (P2.out.below hb P2.out.lt); have QB := Aside0.mk (PB.out.trans (hb.mono (Nat.le_of_lt P2.out.lt))); have D2 := Aside0.mk (Kd.C_below C2.out hb); clear hb P2 PB C2)
      | (refine wpList_store_blk rfl 46 (.tmp 7) (.tmp 23) rfl w2.heap.size (intsA [v0, v1, v2, v3, v4, v5, v6, v7, v8, v9, v10, v11, v12, v13, v14]) rfl rfl 46 _ (Blk.new w2 _ _) (by kernel_rfl) rfl (by kernel_rfl) ?_; intro w3 hv hg; have R7 := Aside0.mk hv; have R2 := Aside0.mk ((Q2.out.alloc _).grown hg (by have := Q2.out.lt; omega)); have RB_ := Aside0.mk (below_grown (QB.out.alloc (Nat.le_of_lt Q2.out.lt) _) hg (Nat.le_of_lt Q2.out.lt) (by have := Q2.out.lt; simp only [World.size_alloc]; omega)); have E2 := Aside0.mk (Kd.C_below D2.out (below_grown ((Below.refl w2.heap.size w2).alloc (Nat.le_refl _) _) hg (Nat.le_refl _) (by simp only [World.size_alloc]; omega))); clear hv hg Q2 QB D2))
    obtain ⟨n7, hn7⟩ : ∃ n, n = w2.heap.size := ⟨_, rfl⟩
    rw [← hn7] at R7
    try rw [← hn7]
    clear hn7
    go_upto_region 6 with (first
      | (refine wpList_load_on (by kernel_rfl) 46 (.tmp 7) rfl n7 rfl ([v0, v1, v2, v3, v4, v5, v6, v7, v8, v9, v10, v11, v12, v13, v14].map (Value.int .i64)) _ (range_ints (n := 15) R7.out) Try.underlying46 rfl (by kernel_rfl) ?_)
      | (refine wpList_load_on (by kernel_rfl) 46 (.tmp 2) rfl n2 rfl ([v0, v1, v2, v3, v4, v5, v6, v7, v8, v9, v10, v11, v12, v13, v14].map (Value.int .i64)) _ (range_ints (n := 15) R2.out) Try.underlying46 rfl (by kernel_rfl) ?_)
      | (go_at_call 19; refine (tlvis_any A2 c2 L _ E2.out L2.out (by have := HSH.out; omega)).mono ?_; rintro e w4 ⟨rfl, hb⟩; rw [HG2.out]; have SB := Aside0.mk (RB_.out.trans (hb.mono (Nat.le_of_lt R2.out.lt))); clear hb RB_ R2 R7 E2))
    by_cases hbig : bigR l = true
    · go_wp2_with (first
        | (go_at_call 14; refine (big_any A1 c1 l _ (Kd.C_below HR.out (by rw [← HN0.out]; exact SB.out)) HC.out).mono ?_; rintro e w20 ⟨rfl, hb⟩; rw [hbig]; have X20_B := Aside0.mk (SB.out.trans (hb.mono (by rw [HN0.out]; exact SB.out.size))); clear hb))
      go_ret
      exact ⟨rfl, by rw [← HN0.out]; exact X20_B.out⟩
    · have hbf : bigR l = false := by simpa using hbig
      have HLEN : Aside0 (l.length ≤ 9223372036854775806) := ⟨by have := big_not l hbig; omega⟩
      clear hbig
      obtain ⟨q0, q1, q2, q3, q4, q5, q6, q7, q8, q9, q10, q11, q12, q13, q14, ev, hgot⟩ := got l HBY.out
      have GG := Aside0.mk hgot
      clear hgot
      go_upto_region 9 with (first
        | (go_at_call 14; refine (big_any A1 c1 l _ (Kd.C_below HR.out (by rw [← HN0.out]; exact SB.out)) HC.out).mono ?_; rintro e w20 ⟨rfl, hb⟩; rw [hbf]; have X20_B := Aside0.mk (SB.out.trans (hb.mono (by rw [HN0.out]; exact SB.out.size))); clear hb)
        | (go_at_call 33; refine (fget_any A1 c1 l _ (Kd.C_below HR.out (by rw [← HN0.out]; exact X20_B.out)) HC.out HBY.out HLEN.out).mono ?_; rintro e w21 ⟨rfl, hb⟩; rw [GG.out.get]; have X20_C := Aside0.mk (X20_B.out.trans (hb.mono (by rw [HN0.out]; exact X20_B.out.size))); clear hb)
        | (refine wpList_store_blk rfl 46 (.tmp 9) (.tmp 42) rfl w21.heap.size (intsA [q0, q1, q2, q3, q4, q5, q6, q7, q8, q9, q10, q11, q12, q13, q14]) rfl rfl 46 _ (Blk.new w21 _ _) (by kernel_rfl) rfl (by kernel_rfl) ?_; intro w22 hv hg; have X20_9 := Aside0.mk hv; have X20_D := Aside0.mk (below_grown (X20_C.out.alloc (by rw [HN0.out]; exact X20_C.out.size) _) hg (by rw [HN0.out]; exact X20_C.out.size) (by rw [HN0.out]; exact Nat.le_trans X20_C.out.size (by simp))); clear hv hg))
      obtain ⟨n9, hn9⟩ : ∃ n, n = w21.heap.size := ⟨_, rfl⟩
      rw [← hn9] at X20_9
      try rw [← hn9]
      clear hn9
      by_cases he : ev = 0
      · have hok := GG.out.ok he
        subst he
        have HP := Aside0.mk hok.1
        have HIS := Aside0.mk hok.2
        obtain ⟨KS, hKS⟩ := same_put q0 q1 q2 q3 q4 q5 q6 q7 q8 q9 q10 q11 q12 q13 q14 l
        have HS : Aside0 (gatelineref17_Same.f KS l l = some true) := ⟨by have := hKS KS (Nat.le_refl _); rw [hok.1] at this; simpa using this⟩
        have hpa := fput_A q0 q1 q2 q3 q4 q5 q6 q7 q8 q9 q10 q11 q12 q13 q14
        rw [hok.1] at hpa
        have FA := Aside0.mk hpa
        clear hok hKS hpa
        go_upto_region 12 with (first
          | (refine wpList_load_str rfl 46 (.tmp 9) rfl n9 rfl 46 (intsA [q0, q1, q2, q3, q4, q5, q6, q7, q8, q9, q10, q11, q12, q13, q14]) _ X20_9.out Try.underlying46 (by kernel_rfl) ?_)
          | (go_at_call 28; refine (FA.out _).mono ?_; rintro e w23 ⟨A5, c5, rfl, hc5, hC5, hb⟩; have X20_E := Aside0.mk (X20_D.out.trans (hb.mono (by rw [HN0.out]; exact X20_D.out.size))); have X20_9b := Aside0.mk (X20_9.out.below hb X20_9.out.lt); have C5 := Aside0.mk hC5; have L5 := Aside0.mk hc5; clear hc5 hC5 hb))
        go_wp2_with (first
          | (go_at_call 32; refine (told_calls _).mono ?_; rintro e w24 ⟨rfl, hb⟩; have X20_F := Aside0.mk (X20_E.out.trans (hb.mono (by rw [HN0.out]; exact X20_E.out.size))); have X20_9c := Aside0.mk (X20_9b.out.below hb X20_9b.out.lt); have D5 := Aside0.mk (Kd.C_below C5.out hb); clear hb)
          | (go_at_call 23; refine (gatelineref17_Same.calls KS A5 c5 l A1 c1 l true _ D5.out L5.out (Kd.C_below HR.out (by rw [← HN0.out]; exact X20_F.out)) HC.out HS.out).mono ?_; rintro e w25 ⟨rfl, nd, rfl⟩; have X20_G := Aside0.mk (pw_below_drewN X20_F.out nd); have X20_9d := Aside0.mk (X20_9c.out.drewN nd); generalize w24.drewN nd = w25 at *)
          | (refine wpList_load_on (by kernel_rfl) 42 _ rfl n9 rfl ([q0, q1, q2, q3, q4, q5, q6, q7, q8, q9, q10].map (Value.int .i64)) _ (range_ints (n := 11) X20_9d.out) Try.underlying42 rfl (by kernel_rfl) ?_)
          | (go_at_call 35; refine (is_any q0 q1 q2 q3 q4 q5 q6 q7 q8 q9 q10 _).mono ?_; rintro e w26 ⟨rfl, hb⟩; rw [HIS.out]; have X20_H := Aside0.mk (X20_G.out.trans (hb.mono (by rw [HN0.out]; exact X20_G.out.size))); clear hb))
        go_ret
        exact ⟨rfl, by rw [← HN0.out]; exact X20_H.out⟩
      · have hz := GG.out.bad he
        rw [hz] at X20_9
        have ez := eqZero
        clear hz
        go_wp2_with (first
          | (go_at_call 32; refine (told_calls _).mono ?_; rintro e w24 ⟨rfl, hb⟩; have X20_F := Aside0.mk (X20_D.out.trans (hb.mono (by rw [HN0.out]; exact X20_D.out.size))); have X20_9c := Aside0.mk (X20_9.out.below hb X20_9.out.lt); clear hb)
          | (refine wpList_load_on (by kernel_rfl) 46 _ rfl n9 rfl (z15.map (Value.int .i64)) _ (range_ints (n := 15) X20_9c.out) Try.underlying46 rfl (by kernel_rfl) ?_)
          | (refine wpList_build_on (by kernel_rfl) 46 _ rfl (intsA z15) (by as_aux_lemma => kernel_rfl) ?_))
        go_ret
        exact ⟨rfl, by rw [← HN0.out]; exact X20_F.out⟩
  · clear HGP C2 L2
    go_upto_region 6 with (first | fail)
    by_cases hbig : bigR l = true
    · go_wp2_with (first
        | (go_at_call 14; refine (big_any A1 c1 l _ (Kd.C_below HR.out (by rw [← HN0.out]; exact PB.out)) HC.out).mono ?_; rintro e w20 ⟨rfl, hb⟩; rw [hbig]; have X20_B := Aside0.mk (PB.out.trans (hb.mono (by rw [HN0.out]; exact PB.out.size))); clear hb))
      go_ret
      exact ⟨rfl, by rw [← HN0.out]; exact X20_B.out⟩
    · have hbf : bigR l = false := by simpa using hbig
      have HLEN : Aside0 (l.length ≤ 9223372036854775806) := ⟨by have := big_not l hbig; omega⟩
      clear hbig
      obtain ⟨q0, q1, q2, q3, q4, q5, q6, q7, q8, q9, q10, q11, q12, q13, q14, ev, hgot⟩ := got l HBY.out
      have GG := Aside0.mk hgot
      clear hgot
      go_upto_region 9 with (first
        | (go_at_call 14; refine (big_any A1 c1 l _ (Kd.C_below HR.out (by rw [← HN0.out]; exact PB.out)) HC.out).mono ?_; rintro e w20 ⟨rfl, hb⟩; rw [hbf]; have X20_B := Aside0.mk (PB.out.trans (hb.mono (by rw [HN0.out]; exact PB.out.size))); clear hb)
        | (go_at_call 33; refine (fget_any A1 c1 l _ (Kd.C_below HR.out (by rw [← HN0.out]; exact X20_B.out)) HC.out HBY.out HLEN.out).mono ?_; rintro e w21 ⟨rfl, hb⟩; rw [GG.out.get]; have X20_C := Aside0.mk (X20_B.out.trans (hb.mono (by rw [HN0.out]; exact X20_B.out.size))); clear hb)
        | (refine wpList_store_blk rfl 46 (.tmp 9) (.tmp 42) rfl w21.heap.size (intsA [q0, q1, q2, q3, q4, q5, q6, q7, q8, q9, q10, q11, q12, q13, q14]) rfl rfl 46 _ (Blk.new w21 _ _) (by kernel_rfl) rfl (by kernel_rfl) ?_; intro w22 hv hg; have X20_9 := Aside0.mk hv; have X20_D := Aside0.mk (below_grown (X20_C.out.alloc (by rw [HN0.out]; exact X20_C.out.size) _) hg (by rw [HN0.out]; exact X20_C.out.size) (by rw [HN0.out]; exact Nat.le_trans X20_C.out.size (by simp))); clear hv hg))
      obtain ⟨n9, hn9⟩ : ∃ n, n = w21.heap.size := ⟨_, rfl⟩
      rw [← hn9] at X20_9
      try rw [← hn9]
      clear hn9
      by_cases he : ev = 0
      · have hok := GG.out.ok he
        subst he
        have HP := Aside0.mk hok.1
        have HIS := Aside0.mk hok.2
        obtain ⟨KS, hKS⟩ := same_put q0 q1 q2 q3 q4 q5 q6 q7 q8 q9 q10 q11 q12 q13 q14 l
        have HS : Aside0 (gatelineref17_Same.f KS l l = some true) := ⟨by have := hKS KS (Nat.le_refl _); rw [hok.1] at this; simpa using this⟩
        have hpa := fput_A q0 q1 q2 q3 q4 q5 q6 q7 q8 q9 q10 q11 q12 q13 q14
        rw [hok.1] at hpa
        have FA := Aside0.mk hpa
        clear hok hKS hpa
        go_upto_region 12 with (first
          | (refine wpList_load_str rfl 46 (.tmp 9) rfl n9 rfl 46 (intsA [q0, q1, q2, q3, q4, q5, q6, q7, q8, q9, q10, q11, q12, q13, q14]) _ X20_9.out Try.underlying46 (by kernel_rfl) ?_)
          | (go_at_call 28; refine (FA.out _).mono ?_; rintro e w23 ⟨A5, c5, rfl, hc5, hC5, hb⟩; have X20_E := Aside0.mk (X20_D.out.trans (hb.mono (by rw [HN0.out]; exact X20_D.out.size))); have X20_9b := Aside0.mk (X20_9.out.below hb X20_9.out.lt); have C5 := Aside0.mk hC5; have L5 := Aside0.mk hc5; clear hc5 hC5 hb))
        go_wp2_with (first
          | (go_at_call 32; refine (told_calls _).mono ?_; rintro e w24 ⟨rfl, hb⟩; have X20_F := Aside0.mk (X20_E.out.trans (hb.mono (by rw [HN0.out]; exact X20_E.out.size))); have X20_9c := Aside0.mk (X20_9b.out.below hb X20_9b.out.lt); have D5 := Aside0.mk (Kd.C_below C5.out hb); clear hb)
          | (go_at_call 23; refine (gatelineref17_Same.calls KS A5 c5 l A1 c1 l true _ D5.out L5.out (Kd.C_below HR.out (by rw [← HN0.out]; exact X20_F.out)) HC.out HS.out).mono ?_; rintro e w25 ⟨rfl, nd, rfl⟩; have X20_G := Aside0.mk (pw_below_drewN X20_F.out nd); have X20_9d := Aside0.mk (X20_9c.out.drewN nd); generalize w24.drewN nd = w25 at *)
          | (refine wpList_load_on (by kernel_rfl) 42 _ rfl n9 rfl ([q0, q1, q2, q3, q4, q5, q6, q7, q8, q9, q10].map (Value.int .i64)) _ (range_ints (n := 11) X20_9d.out) Try.underlying42 rfl (by kernel_rfl) ?_)
          | (go_at_call 35; refine (is_any q0 q1 q2 q3 q4 q5 q6 q7 q8 q9 q10 _).mono ?_; rintro e w26 ⟨rfl, hb⟩; rw [HIS.out]; have X20_H := Aside0.mk (X20_G.out.trans (hb.mono (by rw [HN0.out]; exact X20_G.out.size))); clear hb))
        go_ret
        exact ⟨rfl, by rw [← HN0.out]; exact X20_H.out⟩
      · have hz := GG.out.bad he
        rw [hz] at X20_9
        have ez := eqZero
        clear hz
        go_wp2_with (first
          | (go_at_call 32; refine (told_calls _).mono ?_; rintro e w24 ⟨rfl, hb⟩; have X20_F := Aside0.mk (X20_D.out.trans (hb.mono (by rw [HN0.out]; exact X20_D.out.size))); have X20_9c := Aside0.mk (X20_9.out.below hb X20_9.out.lt); clear hb)
          | (refine wpList_load_on (by kernel_rfl) 46 _ rfl n9 rfl (z15.map (Value.int .i64)) _ (range_ints (n := 15) X20_9c.out) Try.underlying46 rfl (by kernel_rfl) ?_)
          | (refine wpList_build_on (by kernel_rfl) 46 _ rfl (intsA z15) (by as_aux_lemma => kernel_rfl) ?_))
        go_ret
        exact ⟨rfl, by rw [← HN0.out]; exact X20_F.out⟩
end Go.Proofs.Ytekgienbhpknlaa.G
namespace Go.Proofs.Ytekgienbhpknlaa.Pure
open Go Go.RowKit Go.Proofs.Ytekgienbhpknlaa.G Go.Proofs.Ytekgienbhpknlaa.Q Go.Proofs.Ytekgienbhpknlaa.PL Go.Proofs.YtekgienbhpknlaaW.PrintWords
def AlwaysB (l : List SF) (r : Bool) : Prop := (∀ f ∈ l, IsBytes f.f1) ∧ r = true
theorem FieldsBack (v0 v1 v2 v3 v4 v5 v6 v7 v8 v9 v10 v11 v12 v13 v14 : Int) (_ : (Lit.int .i64 v0).wf = true) (_ : (Lit.int .i64 v1).wf = true) (_ : (Lit.int .i64 v2).wf = true) (_ : (Lit.int .i64 v3).wf = true) (_ : (Lit.int .i64 v4).wf = true) (_ : (Lit.int .i64 v5).wf = true) (_ : (Lit.int .i64 v6).wf = true) (_ : (Lit.int .i64 v7).wf = true) (_ : (Lit.int .i64 v8).wf = true) (_ : (Lit.int .i64 v9).wf = true) (_ : (Lit.int .i64 v10).wf = true) (_ : (Lit.int .i64 v11).wf = true) (_ : (Lit.int .i64 v12).wf = true) (_ : (Lit.int .i64 v13).wf = true) (_ : (Lit.int .i64 v14).wf = true) (l : List SF) (_ : l.length ≤ maxLen) (hl : ∀ f ∈ l, FieldOk f) : ∃ _k : Nat, AlwaysB l true := ⟨0, fun f hf => isBytes_of (hl f hf).2.2, rfl⟩
theorem FieldsBack_walk (_k : Nat) (v0 v1 v2 v3 v4 v5 v6 v7 v8 v9 v10 v11 v12 v13 v14 : Int) (A1 : Option Addr) (c1 : Nat) (l : List SF) (r : Bool) (w : World) (hr : Kd.C k40 w A1 l.length l) (hc : l.length ≤ c1) (h : AlwaysB l r) : Calls Try.prog 11 #[.agg #[.int .i64 v0, .int .i64 v1, .int .i64 v2, .int .i64 v3, .int .i64 v4, .int .i64 v5, .int .i64 v6, .int .i64 v7, .int .i64 v8, .int .i64 v9, .int .i64 v10, .int .i64 v11, .int .i64 v12, .int .i64 v13, .int .i64 v14], .slice A1 l.length c1] w fun e w' => e = .returned (.bool r) ∧ Below w.heap.size w w' := by
  obtain ⟨hby, rfl⟩ := h
  exact G.fieldsBack_any v0 v1 v2 v3 v4 v5 v6 v7 v8 v9 v10 v11 v12 v13 v14 A1 c1 l w hr hc hby
end Go.Proofs.Ytekgienbhpknlaa.Pure
end
section

end
section
namespace Go.Proofs.Ytekgienbhpknlaa.fieldsBack
open Go.ChangeShapes Go.WideShapes Go.ChangeAt Go.RowKit Go.Proofs.YtekgienbhpknlaaW.PrintWords
theorem own : ownKnob Try.prog.godebug = none := by kernel_rfl
theorem laidOut : laidOutB Try.prog = true := by kernel_rfl
set_option maxRecDepth 100000 in
theorem lifted (os : Os) (started : os.Started) (H : Type) (enc : TypeId × Value → H) :
    ReturnsInHanded {} Try.checked os 11 .any (Rows.fieldsBackSpec.pre6 enc Try.prog Try.f11 Rows.fieldsBackRow.domain false) (Rows.fieldsBackSpec.post enc Try.prog Try.f11 false true false false) := by
  refine returnsInHanded_of_change_sized (C := Try.checked) own started (by kernel_rfl) Try.func11
    (ChangeSpec.witness6 (enc := enc) (C := Try.checked) false ⟨#[], #[.agg #[.int .i64 0, .int .i64 0, .int .i64 0, .int .i64 0, .int .i64 0, .int .i64 0, .int .i64 0, .int .i64 0, .int .i64 0, .int .i64 0, .int .i64 0, .int .i64 0, .int .i64 0, .int .i64 0, .int .i64 0], .slice none 0 0], []⟩ 8 (by kernel_rfl) (by kernel_rfl) (by kernel_rfl) (by kernel_rfl)) ?_
  intro W base args ds gs before hval0 hW hcnd hsz0 _
  have hval : ∀ (j : Nat) t v, Try.f11.params[j]? = some t → args[j]? = some v → Value.okWide Try.prog W .any base t v := hval0
  have hW' := hW
  obtain ⟨p, q, hA0, hV, rfl, hfz, hnd⟩ := hW
  have hA : DataW.TrodAll enc Try.prog W 0 (fun _ => true) true Try.f11.params.toList args.toList ds p := hA0
  rw [Try.params11] at hA hval
  obtain ⟨v0, vs0, d0, ds0, p0, q0, hargs, rfl, rfl, h0, r0⟩ := trodAll_cons hA
  obtain ⟨v1, vs1, d1, ds1, p1, q1, rfl, rfl, rfl, h1, r1⟩ := trodAll_cons r0
  obtain ⟨rfl, rfl, rfl⟩ := trodAll_nil r1
  obtain rfl : args = #[v0, v1] := by cases args; simp_all
  obtain ⟨rfl, rfl⟩ := trodVars_none hV
  have k0 := h0
  have lt0 : ∀ x ∈ p0, x.block < W.heap.size := by obtain ⟨m, hm⟩ := k0; exact DataW.trod_lt m _ _ _ hm
  obtain ⟨a0_0, a0_1, a0_2, a0_3, a0_4, a0_5, a0_6, a0_7, a0_8, a0_9, a0_10, a0_11, a0_12, a0_13, a0_14, rfl, wa0_0, wa0_1, wa0_2, wa0_3, wa0_4, wa0_5, wa0_6, wa0_7, wa0_8, wa0_9, wa0_10, wa0_11, wa0_12, wa0_13, wa0_14⟩ := G.open_read Try.underlying46 rfl (by kernel_rfl) Try.underlying42 (by kernel_rfl) rfl (by kernel_rfl) Try.underlying3 rfl (by kernel_rfl) Try.underlying44 (by kernel_rfl) rfl (by kernel_rfl) Try.underlying3 (by kernel_rfl) (hval 0 46 v0 rfl rfl) h0
  obtain ⟨a1, len1, cap1, rfl⟩ := okWide_slice Try.underlying22 (hval 1 22 v1 rfl rfl)
  have k1 := h1
  have lt1 : ∀ x ∈ p1, x.block < W.heap.size := by obtain ⟨m, hm⟩ := k1; exact DataW.trod_lt m _ _ _ hm
  obtain ⟨f1_, hf1_⟩ := h1
  obtain ⟨l1, e1, c1, m1, R1, w1⟩ := G.open_fields hf1_
  subst e1
  clear hA0 hval0 hsz0
  obtain ⟨k, hk⟩ := Pure.FieldsBack a0_0 a0_1 a0_2 a0_3 a0_4 a0_5 a0_6 a0_7 a0_8 a0_9 a0_10 a0_11 a0_12 a0_13 a0_14 wa0_0 wa0_1 wa0_2 wa0_3 wa0_4 wa0_5 wa0_6 wa0_7 wa0_8 wa0_9 wa0_10 wa0_11 wa0_12 wa0_13 wa0_14 l1 m1 w1
  refine (Pure.FieldsBack_walk k a0_0 a0_1 a0_2 a0_3 a0_4 a0_5 a0_6 a0_7 a0_8 a0_9 a0_10 a0_11 a0_12 a0_13 a0_14 _ _ l1 true W R1 c1 hk).mono fun e W' ⟨he, bel⟩ => ?_
  subst he
  exact ⟨_, rfl, _, _, _, [], _, [], hW', trodAll_mk1 (shut_bool Try.underlying4 _), (trodAll_cons_mk (Below.trod laidOut (by kernel_rfl) (of_decide_eq_true (by kernel_rfl)) k0 bel lt0) (trodAll_cons_mk (Below.trod laidOut (by kernel_rfl) (of_decide_eq_true (by kernel_rfl)) k1 bel lt1) trodAll_mk0)), rfl, bel.frame _, fun h => by cases h⟩
theorem over : Rows.fieldsBackRow.holds Try.pinned (OpenSpec.ofChange Rows.fieldsBackSpec) :=
  OpenClaim.holds_of_wide 11 Try.f11 rfl rfl rfl rfl rfl rfl rfl ⟨rfl, rfl, rfl, rfl, rfl⟩ rfl rfl rfl rfl rfl (by kernel_rfl) Try.func11 (by kernel_rfl)
    (of_decide_eq_true (by kernel_rfl)) (by unfold Func.isWrapper; first | (rw [if_pos (by decide +kernel)]; kernel_rfl) | (rw [if_neg (by decide +kernel)]; exact ⟨rfl, rfl⟩))
    (fun os started H enc _ => lifted os started H enc)
theorem proved : Rows.FieldsBackSaid := over
#print axioms proved
end Go.Proofs.Ytekgienbhpknlaa.fieldsBack
namespace Go.Proofs.Ytekgienbhpknlaa
/-- The row, under a short name, for the claim. -/
theorem fieldsBack_holds : Rows.FieldsBackSaid := fieldsBack.proved
end Go.Proofs.Ytekgienbhpknlaa
end
