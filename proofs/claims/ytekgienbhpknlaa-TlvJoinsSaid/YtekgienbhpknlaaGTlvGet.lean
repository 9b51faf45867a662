/- The walk of tlv.Get: what bytes say as fields, or why not. -/
import Derived.Test.YtekgienbhpknlaaGNext
namespace Go.Proofs.Ytekgienbhpknlaa.G
open Go Go.RowKit Go.Proofs.YtekgienbhpknlaaW.PrintWords Go.Proofs.YtekgienbhpknlaaW.PrintLast Go.Proofs.YtekgienbhpknlaaW.PrintMore Go.Proofs.Ytekgienbhpknlaa.PL
def getL : Nat → List Int → Int → List S40 → Option (List S40 × Int)
  | 0, _, _, _ => none
  | k + 1, xs, last, out => if 0 < (xs.length : Int) then (if xs.length < 2 then some ([], 14) else (if 0 ≤ rd xs 0 ∧ rd xs 0 < 256 ∧ 0 ≤ rd xs 1 ∧ rd xs 1 < 256 then (if rd xs 0 ≤ last then some ([], 13) else (if (xs.length : Int) < 2 + rd xs 1 then some ([], 14) else (if out.length < 4398046511104 then getL k (xs.drop (2 + rd xs 1).toNat) (rd xs 0) (out ++ [(⟨rd xs 0, (xs.take (2 + rd xs 1).toNat).drop 2⟩ : S40)]) else none))) else none)) else some (out, 0)
def getF (xs : List Int) : Option (List S40 × Int) := getL (xs.length + 1) xs 0 []
theorem get_field {W : World} {ok : Nat → Prop} {ad : Addr} {xs : List Int} {A2 : Option Addr} (h : Kd.F (Kd.int .u8) W ok (some ad) xs.length xs) (m : Nat) (h2 : 2 ≤ m) (hm : m ≤ xs.length) (hA : A2 = if m = (2 : Int).toNat then some ad else (some ad).map (·.add ((2 : Int).toNat * 1))) :
    Kd.F (Kd.int .u8) W ok A2 ((xs.take m).drop 2).length ((xs.take m).drop 2) := by
  by_cases hm2 : m = 2
  · subst hm2
    rw [if_pos (show 2 = (2 : Int).toNat from rfl)] at hA
    subst hA
    rw [show (xs.take 2).drop 2 = [] from List.drop_eq_nil_of_le (by rw [List.length_take]; omega)]
    exact Kd.F_take (m := 0) h (Nat.zero_le _)
  · rw [if_neg (show ¬ m = (2 : Int).toNat from hm2)] at hA
    have := Kd.F_mid (lo := 2) (hi := m) (c := xs.length + 3) h h2 hm (by omega)
    rw [if_neg (by omega)] at this
    rw [hA]
    exact this
set_option maxRecDepth 100000 in
set_option maxHeartbeats 4000000 in
theorem get_calls (P0_ : Nat → Prop) (A0 : Option Addr) (c0 : Nat) (l0 : List Int) (r1 : List S40) (r2 : Int) (w : World) (hs0 : Kd.V (Kd.int .u8) 5 w w.heap.size (fun k_ => P0_ k_) (.slice A0 l0.length c0) l0) (h : getF l0 = some (r1, r2)) :
    Calls Try.prog 21 #[.slice A0 l0.length c0] w fun e w' => ∃ v0_ : Value, e = .returned (.tuple #[v0_, .int .i64 r2]) ∧ Kd.N k40 40 w' w.heap.size (fun k_ => (P0_ k_ ∨ w.heap.size ≤ k_)) v0_ r1 ∧ Below w.heap.size w w' := by
  unfold getF at h
  generalize l0.length + 1 = k at h
  have H' := Aside0.mk h
  have HV := Aside0.mk hs0
  clear h hs0
  go_enter Try.func21, Try.ntmps21
  go_wp2
  have HZ : Blk (w.alloc (.cells #[.slice A0 l0.length c0, .int .i64 0] 59)) w.heap.size #[.slice A0 l0.length c0, .int .i64 0] 59 := Blk.new w _ _
  have HB := below_alloc (Below.refl w.heap.size w) (.cells #[.slice A0 l0.length c0, .int .i64 0] 59)
  have HV1 := Kd.V_alloc (Kd.V_mono (ok' := fun k_ => ((P0_ k_ ∨ w.heap.size ≤ k_) ∧ k_ ≠ w.heap.size) ∧ some k_ ≠ (Value.slice none 0 0).ownBlock) (Kd.V_bound HV.out) (fun k_ hk => ⟨⟨.inl hk.1, by have := hk.2; omega⟩, by simp [Value.ownBlock]⟩)) (.cells #[.slice A0 l0.length c0, .int .i64 0] 59)
  go_loopg [6] k (fun kq v6 w' => ∃ (xs : List Int) (A : Option Addr) (c : Nat) (last : Int) (out : List S40), Aside0 (getL kq xs last out = some (r1, r2)) ∧ Aside0 (kq ≤ k) ∧ Aside0 (Blk w' w.heap.size #[.slice A xs.length c, .int .i64 last] 59) ∧ Aside0 (Kd.V (Kd.int .u8) 5 w' w.heap.size (fun k_ => ((P0_ k_ ∨ w.heap.size ≤ k_) ∧ k_ ≠ w.heap.size) ∧ some k_ ≠ (v6 : Value).ownBlock) (.slice A xs.length c) xs) ∧ Aside0 (Kd.N k40 40 w' w.heap.size (fun k_ => (P0_ k_ ∨ w.heap.size ≤ k_) ∧ k_ ≠ w.heap.size) v6 out) ∧ Aside0 (Below w.heap.size w w'))
  case atStart => exact ⟨l0, A0, c0, 0, [], H', ⟨Nat.le_refl _⟩, ⟨HZ⟩, ⟨HV1⟩, ⟨Kd.N_nil _ _ _ _ _⟩, ⟨HB⟩⟩
  case round =>
    clear H' HZ HB HV1 HV
    obtain ⟨xs, A, c, last, out, HA, HK1, HZ, HV, HN, HB⟩ := hrel
    cases gk with
    | zero => exact absurd HA.out (by simp [getL])
    | succ k1 =>
      have H := HA.out
      clear HA
      simp only [getL] at H
      by_cases c1 : 0 < (xs.length : Int)
      · rw [if_pos c1] at H
        have hc0 := HZ.out.cell 0 _ rfl
        by_cases c2 : xs.length < 2
        · rw [if_pos c2] at H
          simp only [Option.some.injEq, Prod.mk.injEq] at H
          obtain ⟨rfl, rfl⟩ := H
          go_wp2_with (first | (go_at_call 36; refine (next_short w.heap.size A xs.length c last _ HZ.out c2).mono ?_; rintro e w2 ⟨rfl, hb⟩))
          go_ret2
          exact ⟨_, rfl, Kd.N_nil _ _ _ _ _, below_alloc (below_step HB.out hb) _⟩
        · rw [if_neg c2] at H
          by_cases c3 : 0 ≤ rd xs 0 ∧ rd xs 0 < 256 ∧ 0 ≤ rd xs 1 ∧ rd xs 1 < 256
          · rw [if_pos c3] at H
            obtain ⟨b0, b1, b2, b3⟩ := c3
            obtain ⟨ad, eA, h0⟩ := Kd.at_int (Kd.V_reads' HV.out).2.2 0 (by omega) (by omega)
            obtain ⟨ad', eA', h1⟩ := Kd.at_int (Kd.V_reads' HV.out).2.2 1 (by omega) (by omega)
            obtain rfl : ad = ad' := Option.some.inj (eA.symm.trans eA')
            clear eA'
            replace h0 : wr.cell? ad = some (.int .u8 (rd xs 0)) := h0
            replace h1 : wr.cell? ⟨ad.block, ad.off + 1, none⟩ = some (.int .u8 (rd xs 1)) := h1
            subst eA
            generalize e0 : rd xs 0 = x0 at *
            generalize e1 : rd xs 1 = x1 at *
            by_cases c4 : x0 ≤ last
            · rw [if_pos c4] at H
              simp only [Option.some.injEq, Prod.mk.injEq] at H
              obtain ⟨rfl, rfl⟩ := H
              go_wp2_with (first | (go_at_call 36; refine (next_order w.heap.size ad xs.length c last x0 x1 _ HZ.out (by omega) h0 h1 b0 b1 b2 b3 c4).mono ?_; rintro e w2 ⟨rfl, hb⟩))
              go_ret2
              exact ⟨_, rfl, Kd.N_nil _ _ _ _ _, below_alloc (below_step HB.out hb) _⟩
            · rw [if_neg c4] at H
              by_cases c5 : (xs.length : Int) < 2 + x1
              · rw [if_pos c5] at H
                simp only [Option.some.injEq, Prod.mk.injEq] at H
                obtain ⟨rfl, rfl⟩ := H
                go_wp2_with (first | (go_at_call 36; refine (next_len w.heap.size ad xs.length c last x0 x1 _ HZ.out (by omega) h0 h1 b0 b1 b2 b3 c4 c5).mono ?_; rintro e w2 ⟨rfl, hb⟩))
                go_ret2
                exact ⟨_, rfl, Kd.N_nil _ _ _ _ _, below_alloc (below_step HB.out hb) _⟩
              · rw [if_neg c5] at H
                by_cases c6 : out.length < 4398046511104
                · rw [if_pos c6] at H
                  obtain ⟨A2, hA2⟩ : ∃ A2, A2 = if (2 + x1).toNat = (2 : Int).toNat then some ad else (some ad).map (·.add ((2 : Int).toNat * 1)) := ⟨_, rfl⟩
                  obtain ⟨A3, hA3⟩ : ∃ A3, A3 = if c = (2 + x1).toNat then some ad else (some ad).map (·.add ((2 + x1).toNat * 1)) := ⟨_, rfl⟩
                  have hroom : xs.length ≤ c := (Kd.V_reads' HV.out).2.1
                  have HF := (Kd.V_at (base := w.heap.size) HV.out).2.2
                  have HF3 := Kd.F_cut (m := (2 + x1).toNat) (c := c) HF (by omega) hroom
                  replace HF3 : Kd.F (Kd.int .u8) wr (fun k_ => ((P0_ k_ ∨ w.heap.size ≤ k_) ∧ k_ ≠ w.heap.size) ∧ some k_ ≠ (u6 : Value).ownBlock) A3 (xs.drop (2 + x1).toNat).length (xs.drop (2 + x1).toNat) := by rw [hA3]; exact HF3
                  have HF2 : Kd.F (Kd.int .u8) wr (fun k_ => ((P0_ k_ ∨ w.heap.size ≤ k_) ∧ k_ ≠ w.heap.size) ∧ some k_ ≠ (u6 : Value).ownBlock) A2 ((xs.take (2 + x1).toNat).drop 2).length ((xs.take (2 + x1).toNat).drop 2) := get_field HF (2 + x1).toNat (by omega) (by omega) hA2
                  have l2 : ((xs.take (2 + x1).toNat).drop 2).length = (2 + x1).toNat - 2 := by rw [List.length_drop, List.length_take]; omega
                  have l3 : (xs.drop (2 + x1).toNat).length = xs.length - (2 + x1).toNat := List.length_drop
                  generalize hy2 : (xs.take (2 + x1).toNat).drop 2 = y2 at *
                  generalize hy3 : xs.drop (2 + x1).toNat = y3 at *
                  have hcap : xs.length - (2 + x1).toNat ≤ c - (2 + x1).toNat := Nat.sub_le_sub_right hroom _
                  have H' := Aside0.mk H
                  clear H
                  have HC := Aside0.mk c6
                  have L2 := Aside0.mk l2
                  have L3 := Aside0.mk l3
                  have HA2 := Aside0.mk hA2
                  have HA3 := Aside0.mk hA3
                  have HR := Aside0.mk hroom
                  have HCAP := Aside0.mk hcap
                  clear c6 l2 l3 hA2 hA3 hcap hroom hy2 hy3
                  go_wp2_with (first
                    | (go_at_call 36; refine (next_ok w.heap.size ad xs.length c last x0 x1 _ HZ.out (by omega) h0 h1 b0 b1 b2 b3 c4 c5 HR.out A2 A3 HA2.out HA3.out).mono ?_; rintro e w2 ⟨rfl, hz, hb, hk⟩; have e22 : (2 + x1).toNat - (2 : Int).toNat = y2.length := L2.out.symm; rw [e22]; clear e22; rw [← L3.out] at hz; have g2 := Aside0.mk (Kd.F_alloc (Kd.F_kept HF2 hk (fun k_ h_ => h_.1.2)) (.cells #[.int .i64 x0, .slice A2 y2.length y2.length] 40)); have g3 := Aside0.mk (Kd.F_alloc (Kd.F_kept HF3 hk (fun k_ h_ => h_.1.2)) (.cells #[.int .i64 x0, .slice A2 y2.length y2.length] 40)); have gN := Aside0.mk (Kd.N_alloc (Kd.N_kept HN.out hk (fun k_ h_ => h_.2)) (.cells #[.int .i64 x0, .slice A2 y2.length y2.length] 40)); have gB := Aside0.mk (below_alloc (HB.out.trans hb) (.cells #[.int .i64 x0, .slice A2 y2.length y2.length] 40)); have gZ := Aside0.mk (hz.alloc (.cells #[.int .i64 x0, .slice A2 y2.length y2.length] 40)); clear hz hb hk HF2 HF3 HF h0 h1 hc0 HZ HV HN HB)
                    | ((with_reducible refine gate_builtin (b := .append) (xs := #[.tmp 28, .tmp 30]) rfl ?_); at_builtin; refine Kd.N_append k40 (w0 := w) w.heap.size rfl (.tmp 28) (.tmp 30) 22 40 (.agg #[(.int .i64 0), (.slice none 0 0)]) 32 rfl Try.underlying22 info40 rfl (by decide) (by omega) u6 out (⟨x0, y2⟩ : S40) [.int .i64 x0, .slice A2 y2.length y2.length] (fun k_ => (P0_ k_ ∨ w.heap.size ≤ k_) ∧ k_ ≠ w.heap.size) (fun k_ => ((P0_ k_ ∨ w.heap.size ≤ k_) ∧ k_ ≠ w.heap.size) ∧ some k_ ≠ (u6 : Value).ownBlock) rfl (by rw [World.size_alloc]; rfl) ?aP (fun _ hk => hk) ?aF gN.out gB.out gB.out.size ?aL ?_; (case aP => exact k40_mkF _ _ (⟨x0, y2⟩ : S40) (Nat.le_refl _) g2.out); (case aF => exact fun k_ hk => ⟨.inr (Nat.le_trans gB.out.size hk), by have := gZ.out.lt; omega⟩); (case aL => have := HC.out; omega); intro v1 w3 ho hb hg hat; have n1 := Aside0.mk ho; have n2 := Aside0.mk hb; have n3 := Aside0.mk (Kd.F_after g3.out hg hat); have n4 := Aside0.mk (show Blk w3 w.heap.size _ _ from blk_grown gZ.out hg (Kd.N_away gN.out (fun k_ h_ => h_.2))); clear ho hb hg hat gN gB gZ g2 g3))
                  go_roundg k1
                  case measure => have := HK1.out; omega
                  case rel => exact ⟨y3, A3, c - (2 + x1).toNat, x0, out ++ [(⟨x0, y2⟩ : S40)], H', ⟨by have := HK1.out; omega⟩, n4, ⟨Kd.V_mk (by rw [L3.out]; exact HCAP.out) n3.out⟩, n1, n2⟩
                · rw [if_neg c6] at H
                  exact absurd H (by simp)
          · rw [if_neg c3] at H
            exact absurd H (by simp)
      · rw [if_neg c1] at H
        simp only [Option.some.injEq, Prod.mk.injEq] at H
        obtain ⟨rfl, rfl⟩ := H
        have hc0 := HZ.out.cell 0 _ rfl
        go_wp2
        go_ret2
        exact ⟨_, rfl, Kd.N_mono HN.out (fun _ h_ => h_.1), HB.out⟩
end Go.Proofs.Ytekgienbhpknlaa.G
