/- Plain laws of layer 2: how bytes are padded, by the program and by the reference. -/
import Derived.Test.YtbakfengmehkkaaQBits
import Derived.Test.YtbakfengmehkkaaPLyA
set_option linter.unusedSimpArgs false
namespace Go.Proofs.Ytbakfengmehkkaa.Q
open Go Go.RowKit Go.Proofs.Ytbakfengmehkkaa.PL Go.Proofs.YtbakfengmehkkaaW.PrintWords Go.Proofs.YtbakfengmehkkaaW.PrintLast Go.Proofs.YtbakfengmehkkaaW.PrintMore
def hiW (n : Int) : Int := (n * 8 / 4294967296) % 4294967296
def loW (n : Int) : Int := (n * 8) % 4294967296
def zerosN (n : Nat) : Nat := ((119 - (n : Int) % 64) % 64).toNat
/-- Padded bytes. -/
def padR (b : List Int) : List Int := b ++ [128] ++ List.replicate (zerosN b.length) 0 ++ bytesOfW [hiW b.length, loW b.length]
theorem zeros_lt (n : Nat) : zerosN n < 64 := by unfold zerosN; omega
theorem padR_length (b : List Int) : (padR b).length = b.length + 1 + zerosN b.length + 8 := by
  simp only [padR, List.length_append, List.length_replicate, List.length_cons, List.length_nil, bytesOfW_length]
theorem padR_mod (b : List Int) : (padR b).length % 64 = 0 := by
  rw [padR_length]; unfold zerosN; omega
theorem pad_ev (b : List Int) (hl : b.length ≤ 140737488351232) : Ev (fun k => sha_Pad.f k b) (padR b) := by
  obtain ⟨K, hK⟩ := bytes_ev [hiW b.length, loW b.length] (by simp)
  replace hK : ∀ k, K ≤ k → bits_Bytes.f k [hiW b.length, loW b.length] = some (bytesOfW [hiW b.length, loW b.length]) := hK
  have hz := zeros_lt b.length
  refine ⟨K, fun k hk => ?_⟩
  show sha_Pad.f k b = _
  have e1 : (IntKind.u64.wrap (IntKind.u64.wrap (b.length : Int) * 8)) = (b.length : Int) * 8 := by
    show ((b.length : Int) % 18446744073709551616 * 8) % 18446744073709551616 = _
    omega
  have hc : slices_Clone_byte_byte.f b = some b := if_pos (by omega)
  unfold sha_Pad.f
  rw [hc, Option.bind_some, if_pos (by omega), Option.bind_some, if_pos (by omega), if_pos (by simp only [List.length_append, List.length_cons, List.length_nil]; unfold zerosN at hz; omega), Option.bind_some, e1]
  rw [show (b.length : Int) * 8 / 4294967296 % 4294967296 = hiW b.length from rfl, show (b.length : Int) * 8 % 4294967296 = loW b.length from rfl, hK k hk, Option.bind_some, if_pos (by simp only [List.length_append, List.length_cons, List.length_nil, List.length_replicate, bytesOfW_length]; unfold zerosN at hz; omega)]
  rfl
theorem refPad_l1 (x3 : List Int) (k : Nat) (n : Int) (h0 : 0 ≤ n) (h1 : n < 9223372036854775808) (x5 : List Int) (h5 : x5.length ≤ 8) (i : Nat) (hi : i < 8) :
    gatelineref02_Pad.l1 (k + 1) x3 n x5 (i : Int) = gatelineref02_Pad.l1 k x3 (n / 256) ([n % 256] ++ x5) ((i + 1 : Nat) : Int) := by
  rw [gatelineref02_Pad.l1, if_pos (by omega), Option.bind_some, if_pos (by simp only [List.length_cons, List.length_nil]; omega), Int.tmod_eq_emod_of_nonneg h0, Int.tdiv_eq_ediv_of_nonneg h0, w64 (x := n / 256) (by omega) (by omega), w64 (x := (i : Int) + 1) (by omega) (by omega), show n % 256 % 256 = n % 256 by omega]
  rfl
theorem tail8 (n : Int) : bytesOfW [hiW n, loW n] = [n * 8 / 256 / 256 / 256 / 256 / 256 / 256 / 256 % 256, n * 8 / 256 / 256 / 256 / 256 / 256 / 256 % 256, n * 8 / 256 / 256 / 256 / 256 / 256 % 256, n * 8 / 256 / 256 / 256 / 256 % 256, n * 8 / 256 / 256 / 256 % 256, n * 8 / 256 / 256 % 256, n * 8 / 256 % 256, n * 8 % 256] := by
  simp only [bytesOfW, List.flatMap_cons, List.flatMap_nil, bytesW, hiW, loW, List.cons_append, List.nil_append, List.append_nil]
  generalize n * 8 = m at *
  have a1 : m / 4294967296 % 4294967296 / 16777216 % 256 = m / 256 / 256 / 256 / 256 / 256 / 256 / 256 % 256 := by omega
  have a2 : m / 4294967296 % 4294967296 / 65536 % 256 = m / 256 / 256 / 256 / 256 / 256 / 256 % 256 := by omega
  have a3 : m / 4294967296 % 4294967296 / 256 % 256 = m / 256 / 256 / 256 / 256 / 256 % 256 := by omega
  have a4 : m / 4294967296 % 4294967296 % 256 = m / 256 / 256 / 256 / 256 % 256 := by omega
  have a5 : m % 4294967296 / 16777216 % 256 = m / 256 / 256 / 256 % 256 := by omega
  have a6 : m % 4294967296 / 65536 % 256 = m / 256 / 256 % 256 := by omega
  have a7 : m % 4294967296 / 256 % 256 = m / 256 % 256 := by omega
  have a8 : m % 4294967296 % 256 = m % 256 := by omega
  rw [a1, a2, a3, a4, a5, a6, a7, a8]
theorem refPad_tail (x3 : List Int) (hx : x3.length ≤ 1000000) (n : Int) (h0 : 0 ≤ n) (h1 : n * 8 < 9223372036854775808) (k : Nat) : gatelineref02_Pad.l1 (k + 9) x3 (n * 8) [] 0 = some (x3 ++ bytesOfW [hiW n, loW n]) := by
  rw [tail8 n]
  have hm0 : 0 ≤ n * 8 := by omega
  generalize n * 8 = m at *
  have c := fun (k : Nat) (q : Int) (g0 : 0 ≤ q) (g1 : q < 9223372036854775808) (x5 : List Int) (h5 : x5.length ≤ 8) (i : Nat) (hi : i < 8) => refPad_l1 x3 k q g0 g1 x5 h5 i hi
  rw [show (0 : Int) = ((0 : Nat) : Int) from rfl, c (k + 8) _ (by omega) (by omega) _ (by simp) 0 (by omega), c (k + 7) _ (by omega) (by omega) _ (by simp) 1 (by omega), c (k + 6) _ (by omega) (by omega) _ (by simp) 2 (by omega), c (k + 5) _ (by omega) (by omega) _ (by simp) 3 (by omega),
    c (k + 4) _ (by omega) (by omega) _ (by simp) 4 (by omega), c (k + 3) _ (by omega) (by omega) _ (by simp) 5 (by omega), c (k + 2) _ (by omega) (by omega) _ (by simp) 6 (by omega), c (k + 1) _ (by omega) (by omega) _ (by simp) 7 (by omega)]
  rw [gatelineref02_Pad.l1, if_neg (by omega), if_pos (by simp; omega)]
  rfl
theorem refPad_l0 (b : List Int) (hl : b.length ≤ 100000) (d : Nat) : ∀ (k : Nat) (x3 : List Int), x3.length ≤ 1000000 - d → zerosN (x3.length - 1) = d → 1 ≤ x3.length → d + 10 < k →
    gatelineref02_Pad.l0 k b x3 = some (x3 ++ List.replicate d 0 ++ bytesOfW [hiW b.length, loW b.length]) := by
  induction d with
  | zero =>
    intro k x3 h1 h2 h3 hk
    obtain ⟨k, rfl⟩ : ∃ m, k = m + 9 + 1 := ⟨k - 10, by omega⟩
    rw [gatelineref02_Pad.l0, if_pos (by unfold zerosN at h2; omega), show wrap64 (8 * (b.length : Int)) = (b.length : Int) * 8 by rw [w64 (by omega) (by omega)]; omega, refPad_tail x3 (by omega) _ (by omega) (by omega) k]
    simp
  | succ d ih =>
    intro k x3 h1 h2 h3 hk
    obtain ⟨k, rfl⟩ : ∃ m, k = m + 1 := ⟨k - 1, by omega⟩
    rw [gatelineref02_Pad.l0, if_neg (by unfold zerosN at h2; omega), if_pos (by omega), ih k (x3 ++ [0]) (by simp; omega) (by simp; unfold zerosN at h2 ⊢; omega) (by simp) (by omega), List.replicate_succ]
    simp
theorem refPad_ev (b : List Int) (hl : b.length ≤ 100000) : Ev (fun k => gatelineref02_Pad.f k b) (padR b) := by
  have hz := zeros_lt b.length
  refine ⟨100, fun k hk => ?_⟩
  show gatelineref02_Pad.f k b = _
  unfold gatelineref02_Pad.f
  rw [Option.bind_some, if_pos (by simp; omega), Option.bind_some, if_pos (by simp; omega), refPad_l0 b hl (zerosN b.length) k _ (by simp; omega) (by simp) (by simp) (by omega)]
  rfl
theorem padR_isBytes (b : List Int) (hb : IsBytes b) : IsBytes (padR b) := by
  intro x hx
  rcases List.mem_append.1 hx with h | h
  · rcases List.mem_append.1 h with h | h
    · rcases List.mem_append.1 h with h | h
      · exact hb x h
      · simp at h; omega
    · rw [List.eq_of_mem_replicate h]; decide
  · exact bytesOfW_isBytes _ x h
end Go.Proofs.Ytbakfengmehkkaa.Q
