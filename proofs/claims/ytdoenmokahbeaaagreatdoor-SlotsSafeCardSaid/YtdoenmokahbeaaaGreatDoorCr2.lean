
/- A table of sums in memory. -/
import Derived.Test.YtdoenmokahbeaaaGreatDoorCr1
import Derived.Test.YtdoenmokahbeaaaGreatDoorFr0
namespace Go.Proofs.YtdoenmokahbeaaaGreatDoor
open Go.RowKit
set_option linter.unusedVariables false
set_option linter.unusedSimpArgs false

def tabL (c0 c1 c2 : Value) (tb : List Nat) : List Value := c0 :: c1 :: c2 :: tb.map fun (n : Nat) => Value.int .u32 (n : Int)
def TabC (b : Nat) (c0 c1 c2 : Value) (tb : List Nat) (w : World) : Prop := tb.length = 256 ∧ w.heap[b]? = some (.cells (tabL c0 c1 c2 tb).toArray 155 (0, 0))
def tabG (N : Nat) (i : Int) : List Nat := (List.range N).map fun (k : Nat) => if (k : Int) < i then stpN 8 k else 0
theorem tabG_zero (N : Nat) : tabG N 0 = List.replicate N 0 := by
  unfold tabG
  refine List.ext_getElem? fun k => ?_
  by_cases h : k < N
  · simp [h]; omega
  · simp [h]
theorem tabG_set (N : Nat) {i : Int} (h0 : 0 ≤ i) (h1 : i < N) : (tabG N i).set i.toNat (stpN 8 i.toNat) = tabG N (i + 1) := by
  refine List.ext_getElem? fun k => ?_
  rw [List.getElem?_set]
  unfold tabG
  by_cases h : k < N
  · by_cases e : i.toNat = k
    · subst e
      have : i.toNat < N := by omega
      simp [this]; omega
    · simp only [e, if_false]
      simp [h]
      by_cases hk : (k : Int) < i
      · rw [if_pos hk, if_pos (by omega)]
      · rw [if_neg hk, if_neg (by omega)]
  · have : ¬ i.toNat = k := by omega
    simp [h, this]
theorem tabG_get {N k : Nat} (h : k < N) : (tabG N N).getD k 0 = stpN 8 k := by
  unfold tabG
  simp [h]
def tabF (i : Int) : List Nat := tabG 256 i
theorem tabF_len (i : Int) : (tabF i).length = 256 := by unfold tabF tabG; rw [List.length_map, List.length_range]
theorem tabF_zero : tabF 0 = List.replicate 256 0 := tabG_zero 256
theorem tabF_set {i : Int} (h0 : 0 ≤ i) (h1 : i < 256) : (tabF i).set i.toNat (stpN 8 i.toNat) = tabF (i + 1) := tabG_set 256 h0 h1
theorem tabF_get {k : Nat} (h : k < 256) : (tabF 256).getD k 0 = stpN 8 k := tabG_get h
theorem tabF_getI {n : Nat} (h : n < 256) : ((List.getD (tabF 256) ((n : Nat) : Int).toNat 0 : Nat) : Int) = ((stpN 8 n : Nat) : Int) := by rw [Int.toNat_natCast, tabF_get h]
theorem crcU_succ {n : Nat} {l : List UInt8} {i : Int} (h0 : 0 ≤ i) (h1 : i < l.length) : upd (crcF n (List.take i.toNat l)) (List.getD l i.toNat 0) = crcF n (List.take (i + 1).toNat l) := by
  have hlt : i.toNat < l.length := by omega
  rw [← crcF_snoc, show (i + 1).toNat = i.toNat + 1 by omega, List.take_add_one, List.getElem?_eq_getElem hlt]
  simp [List.getD, hlt]
theorem upd_byte8 (n : Nat) (c : UInt8) : stpN 8 ((UInt8.ofNat (n % 256)).toNat ^^^ c.toNat) ^^^ (n / 256) = upd n c := by rw [u8_toNat_ofNat, upd_tab]
theorem beU_succ {l : List UInt8} {i : Int} (h0 : 0 ≤ i) (h1 : i < l.length) : beval (List.take i.toNat l) * 256 + (List.getD l i.toNat 0).toNat = beval (List.take (i + 1).toNat l) := by
  have hlt : i.toNat < l.length := by omega
  rw [← beval_snoc, show (i + 1).toNat = i.toNat + 1 by omega, List.take_add_one, List.getElem?_eq_getElem hlt]
  simp [List.getD, hlt]
theorem beval_b56 (l : List UInt8) {i : Int} (h : i ≤ 7) : beval (List.take i.toNat l) < 72057594037927936 := by
  have h1 := beval_lt (List.take i.toNat l)
  have h2 : 256 ^ (List.take i.toNat l).length ≤ 256 ^ 7 := Nat.pow_le_pow_right (by decide) (by rw [List.length_take]; omega)
  have h3 : (256 : Nat) ^ 7 = 72057594037927936 := by decide
  omega
theorem beval_b24 (l : List UInt8) {i : Int} (h : i ≤ 3) : beval (List.take i.toNat l) < 16777216 := by
  have h1 := beval_lt (List.take i.toNat l)
  have h2 : 256 ^ (List.take i.toNat l).length ≤ 256 ^ 3 := Nat.pow_le_pow_right (by decide) (by rw [List.length_take]; omega)
  have h3 : (256 : Nat) ^ 3 = 16777216 := by decide
  omega
theorem stpN_even {i : Int} {n : Nat} (h0 : 0 ≤ i) (h : stpN i.toNat n % 2 ≠ 1) : stpN i.toNat n / 2 = stpN (i + 1).toNat n := by
  rw [show (i + 1).toNat = i.toNat + 1 by omega, stpN, stp, if_neg h]; simp
theorem stpN_odd {i : Int} {n : Nat} (h0 : 0 ≤ i) (h : stpN i.toNat n % 2 = 1) : (stpN i.toNat n / 2) ^^^ 3988292384 = stpN (i + 1).toNat n := by
  rw [show (i + 1).toNat = i.toNat + 1 by omega, stpN, stp, if_pos h]; rfl
section
variable {b j : Nat} {c0 c1 c2 v : Value} {tb : List Nat} {w w' : World} {S : Nat → Prop}
theorem TabC.lt (h : TabC b c0 c1 c2 tb w) : b < w.heap.size := lt_of_heap h.2
theorem TabC.keeps (h : TabC b c0 c1 c2 tb w) (k : Keeps S w w') (hn : ¬ S b) : TabC b c0 c1 c2 tb w' := ⟨h.1, k.heap h.2 hn⟩
theorem TabC.get (h : TabC b c0 c1 c2 tb w) (hj : j < 256) : w.cell? ⟨b, 3 + j, none⟩ = some (.int .u32 ((tb.getD j 0 : Nat) : Int)) := by
  refine cell_at h.2 _ ?_
  have := h.1
  unfold tabL
  rw [show 3 + j = j + 1 + 1 + 1 by omega]
  simp [List.getElem?_eq_getElem (show j < tb.length by omega)]
theorem tab_ld (h : TabC b c0 c1 c2 tb w) (hj : j < 256) : (loadVar 114 ⟨b, 3 + j * 1, none⟩).run Tryz.prog w = .ok (.int .u32 ((tb.getD j 0 : Nat) : Int)) w := by
  have hc := h.get hj
  have hsc : scT Tryz.prog 114 = true := by kernel_rfl
  unfold loadVar
  simp only [Sem.run_bind, run_isAgg_sc hsc, Result.andThen_ok, Nat.mul_one]
  simp [go_sem, hc]
theorem tab_st (h : TabC b c0 c1 c2 tb w) (hj : j < 256) (n : Nat) : ∃ w', (storeVar 114 ⟨b, 3 + j * 1, none⟩ (.int .u32 (n : Int))).run Tryz.prog w = .ok () w' ∧ TabC b c0 c1 c2 (tb.set j n) w' ∧ Keeps (fun k => k = b) w w' := by
  have hc := h.get hj
  have hf : w.frozen? ⟨b, 3 + j, none⟩ = false := free_at h.2 _
  have hs : (Tryz.prog.info? 114).map (·.size) = some 1 := by kernel_rfl
  obtain ⟨i, hi, hz⟩ := Option.map_eq_some_iff.1 hs
  rw [Nat.mul_one]
  refine ⟨w.setCell ⟨b, 3 + j, none⟩ (.int .u32 (n : Int)), ?_, ⟨by rw [List.length_set]; exact h.1, ?_⟩, (Keeps.refl (fun k => k = b) w).setCell _ _ (fun _ => rfl)⟩
  · unfold storeVar
    simp [sizeOf, typeInfo, hi, hz, storeCells, Addr.add, store, Sem.run, hc, hf, Value.cells]
  · have e : (tabL c0 c1 c2 tb).toArray.setIfInBounds (3 + j) (.int .u32 (n : Int)) = (tabL c0 c1 c2 (tb.set j n)).toArray := by
      apply Array.ext'
      unfold tabL
      rw [show 3 + j = j + 1 + 1 + 1 by omega, Array.toList_setIfInBounds]
      simp only [List.set_cons_succ, List.map_set]
    rw [heap_set_same h.2, e]
theorem TabC.g0 (h : TabC b c0 c1 c2 tb w) : w.cell? ⟨b, 0, none⟩ = some c0 := cell_at h.2 _ (by simp [tabL])
theorem TabC.g1 (h : TabC b c0 c1 c2 tb w) : w.cell? ⟨b, 1, none⟩ = some c1 := cell_at h.2 _ (by simp [tabL])
theorem TabC.free (h : TabC b c0 c1 c2 tb w) (j : Nat) : w.frozen? ⟨b, j, none⟩ = false := free_at h.2 _
theorem TabC.set0 (h : TabC b c0 c1 c2 tb w) (v : Value) : TabC b v c1 c2 tb (w.setCell ⟨b, 0, none⟩ v) ∧ Keeps (fun k => k = b) w (w.setCell ⟨b, 0, none⟩ v) :=
  ⟨⟨h.1, by rw [heap_set_same h.2]; simp [tabL]⟩, (Keeps.refl (fun k => k = b) w).setCell _ _ (fun _ => rfl)⟩
theorem TabC.set1 (h : TabC b c0 c1 c2 tb w) (v : Value) : TabC b c0 v c2 tb (w.setCell ⟨b, 1, none⟩ v) ∧ Keeps (fun k => k = b) w (w.setCell ⟨b, 1, none⟩ v) :=
  ⟨⟨h.1, by rw [heap_set_same h.2]; simp [tabL]⟩, (Keeps.refl (fun k => k = b) w).setCell _ _ (fun _ => rfl)⟩
theorem TabC.of (h : w.heap[b]? = some (.cells (tabL c0 c1 c2 (List.replicate 256 0)).toArray 155 (0, 0))) : TabC b c0 c1 c2 (List.replicate 256 0) w := ⟨List.length_replicate, h⟩
end

end Go.Proofs.YtdoenmokahbeaaaGreatDoor
