/- Plain words of layer 3: the block of a secret and its tag, as rows of bytes; laws of rows at the walk. -/
import Derived.Test.YtbakfengmehkkaaGSummed
import Derived.Test.YtbakfengmehkkaaGRefSum
import Derived.Laws.CopyOwn
namespace Go.Proofs.Ytbakfengmehkkaa.G
open Go Go.RowKit Go.Proofs.Ytbakfengmehkkaa.PL Go.Proofs.Ytbakfengmehkkaa.Q Go.Proofs.YtbakfengmehkkaaW.PrintWords Go.Proofs.YtbakfengmehkkaaW.PrintLast Go.Proofs.YtbakfengmehkkaaW.PrintMore
def secR (s : List Int) : List Int := if 64 < s.length then sumR s else s
theorem secR_long {s : List Int} (h : 64 < s.length) : secR s = sumR s := if_pos h
theorem secR_short {s : List Int} (h : ¬ 64 < s.length) : secR s = s := if_neg h
theorem secR_le (s : List Int) : (secR s).length ≤ 64 := by
  by_cases h : 64 < s.length
  · rw [secR_long h, sumR_len]; decide
  · rw [secR_short h]; omega
def padZ (t : List Int) : List Int := t ++ List.replicate (64 - t.length) 0
def blkL (s : List Int) : List Int := padZ (secR s)
theorem padZ_len {t : List Int} (h : t.length ≤ 64) : (padZ t).length = 64 := by
  rw [padZ, List.length_append, List.length_replicate]; omega
theorem blkL_len (s : List Int) : (blkL s).length = 64 := padZ_len (secR_le s)
theorem padZ_isBytes {t : List Int} (h : IsBytes t) : IsBytes (padZ t) := by
  intro x hx
  rcases List.mem_append.1 hx with h1 | h1
  · exact h x h1
  · rw [(List.mem_replicate.1 h1).2]; decide
theorem secR_isBytes {s : List Int} (h : IsBytes s) : IsBytes (secR s) := by
  by_cases h64 : 64 < s.length
  · rw [secR_long h64]; exact sumR_isBytes s
  · rw [secR_short h64]; exact h
theorem blkL_isBytes {s : List Int} (h : IsBytes s) : IsBytes (blkL s) := padZ_isBytes (secR_isBytes h)
theorem blkL_same {s : List Int} (h : s.length = 64) : blkL s = s := by
  rw [blkL, secR_short (by omega), padZ, h]; simp
theorem blkL_blkL (s : List Int) : blkL (blkL s) = blkL s := blkL_same (blkL_len s)
theorem blkL_sum {s : List Int} (h : 64 < s.length) : blkL (sumR s) = blkL s := by
  unfold blkL
  rw [secR_long h, secR_short (by rw [sumR_len]; decide)]
theorem blkL_zeros {s : List Int} (n : Nat) (h : s.length + n ≤ 64) : blkL (s ++ List.replicate n 0) = blkL s := by
  unfold blkL
  rw [secR_short (by rw [List.length_append, List.length_replicate]; omega), secR_short (by omega), padZ, padZ, List.length_append, List.length_replicate, List.append_assoc, List.replicate_append_replicate]
  congr 2
  omega
def xorB (m x : Int) : Int := bits .xor .u8 x m
def sideL (m : Int) (s : List Int) : List Int := (blkL s).map (xorB m)
def innerR (s b : List Int) : List Int := sumR (sideL 54 s ++ b)
def tagR (s b : List Int) : List Int := sumR (sideL 92 s ++ innerR s b)
theorem sideL_len (m : Int) (s : List Int) : (sideL m s).length = 64 := by rw [sideL, List.length_map, blkL_len]
theorem tagR_len (s b : List Int) : (tagR s b).length = 32 := sumR_len _
theorem tagR_alike {s t : List Int} (h : blkL s = blkL t) (b : List Int) : tagR s b = tagR t b := by
  unfold tagR innerR sideL
  rw [h]
theorem splice_zeros (t : List Int) (_ : t.length ≤ 64) : splice (bytesA (List.replicate 64 0)).toList 0 (t.map (Value.int .u8)) = (bytesA (padZ t)).toList := by
  simp only [splice, bytesA, List.take_zero, List.nil_append, Nat.zero_add, List.length_map, padZ, List.map_append, List.map_replicate, List.drop_replicate]
theorem src_of_C {w : World} {A : Option Addr} {n : Nat} {l : List Int} (h : Kd.C (Kd.int .u8) w A n l) (hp : 0 < (l.map (Value.int .u8)).length) : ∃ ad, A = some ad ∧ ∀ j v, (l.map (Value.int .u8))[j]? = some v → w.cell? (ad.add j) = some v := by
  have hR := Kd.reads_of_C (enc := Value.int .u8) (d := (0 : Int)) (h1 := fun _ => rfl) h
  obtain ⟨ad, e, hc⟩ := hR.2.2 (by have := hR.1; rw [List.length_map] at hp; omega)
  refine ⟨ad, e, fun j v hv => ?_⟩
  obtain ⟨x, hx, rfl⟩ := map_at hv
  have hj : j < l.length := (List.getElem?_eq_some_iff.1 hx).1
  rw [hc j (by have := hR.1; omega), List.getD_eq_getElem?_getD, hx]
  rfl
theorem bytes_list_one (l : List Int) : ∀ v ∈ (l.map (Value.int .u8)), v.oneCell' = true := by
  intro v hv
  obtain ⟨x, _, rfl⟩ := List.mem_map.1 hv
  rfl
theorem map_atk {l : List Int} {k : IntKind} {j : Nat} {u : Value} (h : (l.map (Value.int k))[j]? = some u) : ∃ x, l[j]? = some x ∧ Value.int k x = u := by
  rw [List.getElem?_map, Option.map_eq_some_iff] at h
  exact h
section
variable {P : Program}
theorem run_append_nothing {w : World} (t ty e : TypeId) (i : TypeInfo) (ht : P.underlying t = some (.slice e)) (hi : P.info? e = some i) (b : Addr) (n : Nat) (A : Option Addr) (c : Nat) :
    (Builtin.append_ #[t, t] ty #[.slice (some b) n n, .slice A 0 c]).run P w = .ok (.slice (some b) n n) w := by
  cases A with
  | none => simp [Builtin.append_, run_underlying ht, sizeOf, typeInfo, hi, Builtin.lenOf, run_firstCells_none, storeCells]
  | some ad =>
    have hf := run_firstCells_some (P := P) w i.size 0 ad 0 c [] (by simp) (by simp)
    simp [Builtin.append_, run_underlying ht, sizeOf, typeInfo, hi, Builtin.lenOf, hf, storeCells]
/-- An append to a row that is full: a row of the call's own, or the row itself where nothing is appended. -/
theorem wpList_append_full {ops : Array Oper} {rest : List Oper} {o : Oper} {a : Act} {w : World} {Q : Exit → Act → World → Prop} (hgd : o.guard = none) (s x : Operand) (t : TypeId)
    (ho : o.op = .call { callee := .builtin .append, args := #[s, x], argTypes := #[t, t] })
    (e : TypeId) (k : IntKind) (z : Value) (bytes : Nat) (ht : P.underlying t = some (.slice e)) (hinfo : (P.info? e).map (fun i => (i.zero, i.size, i.bytes)) = some (some z, 1, bytes))
    (b : Addr) (n : Nat) (olds : List Int) (hlo : olds.length = n) (holds : ∀ j x, olds[j]? = some x → w.cell? (b.add j) = some (.int k x)) (hs : a.eval s = .slice (some b) n n)
    (A : Option Addr) (m c : Nat) (l : List Int) (hx : a.eval x = .slice A m c) (hC : Kd.C (Kd.int k) w A m l) (hbytes : (n + m) * bytes ≤ 140737488355328) (h63 : n + m ≤ maxLen)
    (h : ∀ A' c' w', Kd.C (Kd.int k) w' A' (n + m) (olds ++ l) → n + m ≤ c' → Below w.heap.size w w' → wpList P ops Q rest (a.put o.dst (.slice A' (n + m) c')) w') : wpList P ops Q (o :: rest) a w := by
  obtain ⟨i, hi, hz, hsize, hby⟩ : ∃ i, P.info? e = some i ∧ i.zero = some z ∧ i.size = 1 ∧ i.bytes = bytes := by
    cases hq : P.info? e with
    | none => simp [hq] at hinfo
    | some i => simp [hq] at hinfo; exact ⟨i, rfl, hinfo.1, hinfo.2.1, hinfo.2.2⟩
  have hR := Kd.reads_of_C (enc := Value.int k) (d := (0 : Int)) (h1 := fun _ => rfl) hC
  have hm63 : ((n + m : Nat) : Int) ≤ 9223372036854775807 := by simp only [maxLen] at h63; omega
  suffices hh : ∃ A' c' w', (Builtin.append_ #[t, t] o.type #[.slice (some b) n n, .slice A m c]).run P w = .ok (.slice A' (n + m) c') w' ∧ Kd.C (Kd.int k) w' A' (n + m) (olds ++ l) ∧ n + m ≤ c' ∧ Below w.heap.size w w' by
    obtain ⟨A', c', w', hr, h1, h2, h3⟩ := hh
    refine wpList_plain hgd fun _ hK => ?_
    unfold Oper.wp execOp
    simp only [ho, resolve, invoke, builtin, Sem.run_bind, Sem.run_pure, Result.andThen_ok, List.map_toArray, List.map_cons, List.map_nil, hs, hx, hr]
    exact hK _ _ (h A' c' w' h1 h2 h3)
  rcases Nat.eq_zero_or_pos m with rfl | hm
  · obtain rfl : l = [] := List.eq_nil_of_length_eq_zero hR.1
    refine ⟨some b, n, w, run_append_nothing t o.type e i ht hi b n A c, ?_, Nat.le_refl _, Below.refl _ _⟩
    rw [List.append_nil]
    refine Kd.C_of_reads (d := (0 : Int)) (h1 := fun _ => rfl) ⟨hlo, by omega, fun _ => ⟨b, rfl, fun j hj => ?_⟩⟩
    rw [holds j _ (List.getElem?_eq_getElem (by omega)), List.getD_eq_getElem?_getD, List.getElem?_eq_getElem (by omega)]
    rfl
  · obtain ⟨ad, rfl, hc⟩ := hR.2.2 hm
    have hr := run_append_grow (P := P) w t o.type e i z ht hi hz b n n (olds.map (Value.int k)) (by rw [hsize, List.length_map, hlo, Nat.mul_one]) (fun j v hv => by obtain ⟨x, hx, rfl⟩ := map_atk hv; exact holds j x hx) ad m c (l.map (Value.int k)) (by rw [hsize, List.length_map, hR.1, Nat.mul_one])
      (fun j v hv => by
        obtain ⟨x, hx, rfl⟩ := map_atk hv
        have hj : j < l.length := (List.getElem?_eq_some_iff.1 hx).1
        rw [hc j (by have := hR.1; omega), List.getD_eq_getElem?_getD, hx]
        rfl) (by omega) hm63 (growslice_fits (by omega) (by rw [hby]; exact hbytes))
    have hge := grownCap_ge w (n + m) n e
    refine ⟨_, _, _, hr, ?_, hge, ?_⟩
    · refine Kd.C_of_reads (d := (0 : Int)) (h1 := fun _ => rfl) ⟨by rw [List.length_append, hlo, hR.1], by omega, fun _ => ⟨_, rfl, fun j hj => ?_⟩⟩
      have hjl : j < (olds ++ l).length := by rw [List.length_append, hlo, hR.1]; exact hj
      have hjm : j < (olds.map (Value.int k) ++ l.map (Value.int k)).length := by rw [← List.map_append, List.length_map]; exact hjl
      rw [add_lit, show w.heap.size = w.drew.heap.size from rfl, cell_of_row _ _ j _ e (0, 0) (heap_alloc_new w.drew _), Array.getElem?_append_left (by simpa using hjl), ← Array.getElem?_toList, Array.toList_append]
      rw [← List.map_append, List.getElem?_map, List.getElem?_eq_getElem hjl, List.getD_eq_getElem?_getD, List.getElem?_eq_getElem hjl]
      rfl
    · exact ⟨rfl, rfl, rfl, by simp, fun q hq => Below.heap_alloc w.drew _ q hq⟩
end
end Go.Proofs.Ytbakfengmehkkaa.G
