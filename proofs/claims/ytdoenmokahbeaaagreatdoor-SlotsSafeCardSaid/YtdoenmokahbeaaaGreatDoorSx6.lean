
/- Slices: that read as a list; that are the call's own. -/
import Derived.Test.YtdoenmokahbeaaaGreatDoorSx5
import Derived.Maps.AppendAt
import Derived.Laws.OwnMore
namespace Go.Proofs.YtdoenmokahbeaaaGreatDoor
open Go.RowKit
set_option linter.unusedVariables false
set_option linter.unusedSimpArgs false

theorem addr_add (b o j : Nat) : (⟨b, o, none⟩ : Addr).add j = ⟨b, o + j, none⟩ := by
  unfold Addr.add; split
  · rename_i h; rw [h]; rfl
  · rfl
/-- What an element's cells are. -/
structure EK {α : Type} (cl : α → List Value) (m : Nat) (E : TypeId) : Prop where
  len : ∀ x, (cl x).length = m
  one : ∀ x, ∀ u ∈ cl x, u.oneCell' = true
  pos : 0 < m
  info : ∃ i z, Tryz.prog.info? E = some i ∧ i.zero = some z ∧ i.size = m ∧ z.cells.size = m ∧ i.bytes ≤ 512

def SlAt {α : Type} (cl : α → List Value) (m : Nat) (E : TypeId) (A : Option Addr) (xs : List α) (w : World) : Prop :=
  xs = [] ∨ ∃ b o cs E' fz, A = some ⟨b, o, none⟩ ∧ w.heap[b]? = some (.cells cs E' fz) ∧ o + xs.length * m ≤ cs.size ∧ ∀ (i : Nat) r, xs[i]? = some r → (cs.toList.drop (o + i * m)).take m = cl r
def ElAt {α : Type} (cl : α → List Value) (m : Nat) (E : TypeId) (b p : Nat) (r : α) (w : World) : Prop := ∃ cs E' fz, w.heap[b]? = some (.cells cs E' fz) ∧ p + m ≤ cs.size ∧ (cs.toList.drop p).take m = cl r
def OwAt {α : Type} (cl : α → List Value) (m : Nat) (E : TypeId) (A : Option Addr) (cap : Nat) (xs : List α) (w : World) : Prop := w.ownsRow 0 E m (.slice A xs.length cap) xs.length (xs.flatMap cl)
def blk (A : Option Addr) : Option Nat := A.map (·.block)

section
variable {α : Type} {cl : α → List Value} {m : Nat} {E : TypeId} {A A' : Option Addr} {cap : Nat} {xs ys : List α} {w w' : World} {S : Nat → Prop} {b p o : Nat} {r : α}
theorem SlAt.nil : SlAt cl m E A [] w := .inl rfl
theorem SlAt.keeps (h : SlAt cl m E A xs w) (k : Keeps S w w') (hn : xs ≠ [] → ∀ p, A = some p → ¬ S p.block) : SlAt cl m E A xs w' := by
  rcases h with h | ⟨b, o, cs, E', fz, hA, hb, hs, hc⟩
  · exact .inl h
  · by_cases hx : xs = []
    · exact .inl hx
    · exact .inr ⟨b, o, cs, E', fz, hA, k.heap hb (hn hx _ hA), hs, hc⟩
theorem SlAt.adds (h : SlAt cl m E A xs w) (k : Keeps (fun _ => False) w w') : SlAt cl m E A xs w' := h.keeps k (fun _ _ _ x => x)
theorem SlAt.lt (h : SlAt cl m E A xs w) (hx : xs ≠ []) : ∀ p, A = some p → p.block < w.heap.size := fun p hp => by
  rcases h with h | ⟨b, o, cs, E', fz, hA, hb, _⟩
  · exact absurd h hx
  · rw [hA] at hp; cases hp; exact lt_of_heap hb
theorem SlAt.of_lit {cs : Array Value} {fz : Nat × Nat} (hk : EK cl m E) (hb : w.heap[b]? = some (.cells cs E fz)) (hcs : cs.toList = ys.flatMap cl) : SlAt cl m E (some ⟨b, 0, none⟩) ys w := by
  have hl : ∀ l : List α, (l.flatMap cl).length = l.length * m := fun l => by
    induction l with
    | nil => simp
    | cons x l ih => simp [List.flatMap_cons, hk.len, ih, Nat.add_mul, Nat.add_comm]
  refine .inr ⟨b, 0, cs, E, fz, rfl, hb, ?_, fun i r hr => ?_⟩
  · have := congrArg List.length hcs
    rw [hl] at this
    simp at this; omega
  · rw [hcs, Nat.zero_add]
    have hi := (List.getElem?_eq_some_iff.1 hr)
    obtain ⟨hlt, he⟩ := hi
    have h1 : ys = ys.take i ++ r :: ys.drop (i + 1) := by
      rw [← he, ← List.drop_eq_getElem_cons hlt, List.take_append_drop]
    rw [h1, List.flatMap_append, List.flatMap_cons, List.drop_append_of_le_length (by rw [hl]; simp; rw [Nat.min_eq_left (Nat.le_of_lt hlt)]; exact Nat.le_refl _)]
    have h2 : ((ys.take i).flatMap cl).length = i * m := by rw [hl]; simp [Nat.min_eq_left (Nat.le_of_lt hlt)]
    rw [← h2, List.drop_length, List.nil_append, List.take_append_of_le_length (by rw [hk.len]; exact Nat.le_refl _), List.take_of_length_le (by rw [hk.len]; exact Nat.le_refl _)]
theorem SlAt.at (h : SlAt cl m E A xs w) {i : Int} (h0 : 0 ≤ i) (h1 : i < xs.length) : ∃ b o r, xs[i.toNat]? = some r ∧ A = some ⟨b, o, none⟩ ∧ ElAt cl m E b (o + i.toNat * m) r w := by
  have hlt : i.toNat < xs.length := by omega
  rcases h with h | ⟨b, o, cs, E', fz, hA, hb, hs, hc⟩
  · subst h; simp at hlt
  · refine ⟨b, o, xs[i.toNat], List.getElem?_eq_getElem hlt, hA, cs, E', fz, hb, ?_, hc _ _ (List.getElem?_eq_getElem hlt)⟩
    have : (i.toNat + 1) * m ≤ xs.length * m := Nat.mul_le_mul_right m hlt
    rw [Nat.add_mul, Nat.one_mul] at this; omega
theorem ElAt.keeps (h : ElAt cl m E b p r w) (k : Keeps S w w') (hn : ¬ S b) : ElAt cl m E b p r w' := by
  obtain ⟨cs, E', fz, hb, h1, h2⟩ := h; exact ⟨cs, E', fz, k.heap hb hn, h1, h2⟩
theorem ElAt.adds (h : ElAt cl m E b p r w) (k : Keeps (fun _ => False) w w') : ElAt cl m E b p r w' := h.keeps k id
theorem ElAt.lt (h : ElAt cl m E b p r w) : b < w.heap.size := by obtain ⟨cs, E', fz, hb, _⟩ := h; exact lt_of_heap hb
theorem ElAt.get (h : ElAt cl m E b p r w) {j : Nat} {v : Value} (hj : j < m) (hv : (cl r)[j]? = some v) : w.cell? ⟨b, p + j, none⟩ = some v := by
  obtain ⟨cs, E', fz, hb, h1, h2⟩ := h
  refine cell_at hb _ ?_
  rw [← h2, List.getElem?_take_of_lt hj, List.getElem?_drop] at hv
  simpa using hv
theorem ElAt.ldW {P : Program} {T : TypeId} (h : ElAt cl m E b p r w) (hT : agT P T = some m := by kernel_rfl) : (loadVar T ⟨b, p, none⟩).run P w = .ok (.agg (cl r).toArray) w := by
  obtain ⟨cs, E', fz, hb, h1, h2⟩ := h
  exact ldN hb hT (Nat.ble_eq_true_of_le h1) h2
theorem ElAt.ldA {P : Program} {T : TypeId} {l : List Value} {k off : Nat} (h : ElAt cl m E b p r w) (hT : agT P T = some k := by kernel_rfl) (hk : Nat.ble (off + k) m = true := by kernel_rfl) (hl : ((cl r).drop off).take k = l := by kernel_rfl) : (loadVar T ⟨b, p + off, none⟩).run P w = .ok (.agg l.toArray) w := by
  obtain ⟨cs, E', fz, hb, h1, h2⟩ := h
  have := Nat.le_of_ble_eq_true hk
  refine ldN hb hT (Nat.ble_eq_true_of_le (by omega)) ?_
  rw [← hl, ← h2, List.drop_take, List.drop_drop, List.take_take, Nat.min_eq_left (by omega)]
theorem ElAt.ldF {P : Program} {T : TypeId} {v : Value} {off : Nat} (h : ElAt cl m E b p r w) (hj : Nat.blt off m = true := by kernel_rfl) (hv : (cl r)[off]? = some v := by kernel_rfl) (hT : scT P T = true := by kernel_rfl) : (loadVar T ⟨b, p + off, none⟩).run P w = .ok v w := by
  have hc := h.get (by simpa [Nat.blt_eq] using hj) hv
  unfold loadVar
  simp only [Sem.run_bind, run_isAgg_sc hT, Result.andThen_ok]
  simp [load, Sem.run, hc]
theorem ElAt.ld0 {P : Program} {T : TypeId} {v : Value} (h : ElAt cl m E b p r w) (hj : Nat.blt 0 m = true := by kernel_rfl) (hv : (cl r)[0]? = some v := by kernel_rfl) (hT : scT P T = true := by kernel_rfl) : (loadVar T ⟨b, p, none⟩).run P w = .ok v w := h.ldF (off := 0) hj hv hT
theorem ElAt.ldA0 {P : Program} {T : TypeId} {l : List Value} {k : Nat} (h : ElAt cl m E b p r w) (hT : agT P T = some k := by kernel_rfl) (hk : Nat.ble k m = true := by kernel_rfl) (hl : (cl r).take k = l := by kernel_rfl) : (loadVar T ⟨b, p, none⟩).run P w = .ok (.agg l.toArray) w :=
  h.ldA (off := 0) hT (by simpa using hk) (by simpa using hl)

/-! own rows -/
theorem OwAt.nil : OwAt cl m E none 0 [] w := ⟨by simp, .inl ⟨rfl, rfl⟩⟩
theorem OwAt.block (h : OwAt cl m E A cap xs w) : (A = none ∧ cap = 0 ∧ xs = []) ∨ ∃ g cur, A = some ⟨g, 0, none⟩ ∧ w.heap[g]? = some (.cells cur E (0, 0)) ∧ xs.length ≤ cap ∧ cap ≤ maxLen ∧ cur.size = cap * m ∧ cur.toList.take (xs.length * m) = xs.flatMap cl := by
  rcases h.2 with ⟨h1, h2⟩ | ⟨g, cap', cur, h1, _, hg, h3⟩
  · simp only [Value.slice.injEq] at h1
    exact .inl ⟨h1.1, h1.2.2, List.eq_nil_of_length_eq_zero h2⟩
  · simp only [Value.slice.injEq] at h1
    obtain ⟨e1, _, e3⟩ := h1
    subst e3
    exact .inr ⟨g, cur, e1, hg, h3⟩
theorem OwAt.keeps (h : OwAt cl m E A cap xs w) (k : Keeps S w w') (hn : ∀ i, blk A = some i → ¬ S i) : OwAt cl m E A cap xs w' := by
  refine ⟨h.1, ?_⟩
  rcases h.2 with h1 | ⟨g, cap', cur, h1, h2, hg, h3⟩
  · exact .inl h1
  · refine .inr ⟨g, cap', cur, h1, h2, k.heap hg (hn g ?_), h3⟩
    simp only [Value.slice.injEq] at h1
    rw [h1.1]; rfl
theorem OwAt.adds (h : OwAt cl m E A cap xs w) (k : Keeps (fun _ => False) w w') : OwAt cl m E A cap xs w' := h.keeps k (fun _ _ x => x)
theorem OwAt.lt (h : OwAt cl m E A cap xs w) : ∀ i, blk A = some i → i < w.heap.size := fun i hi => by
  rcases h.block with ⟨rfl, _⟩ | ⟨g, cur, rfl, hg, _⟩
  · simp [blk] at hi
  · simp [blk] at hi; subst hi; exact lt_of_heap hg
theorem OwAt.off_new (h : OwAt cl m E A cap xs w) (g : w.heap.size ≤ b) : ¬ blk A = some b := fun e => absurd (h.lt b e) (Nat.not_lt.2 g)
theorem off_step (n : blk A' = blk A ∨ ∃ k, blk A' = some k ∧ w.heap.size ≤ k) (h : ¬ blk A = some b) (hl : b < w.heap.size) : ¬ blk A' = some b := fun e => by
  rcases n with n | ⟨k, n, hk⟩
  · exact h (n ▸ e)
  · rw [n] at e; cases e; omega
theorem OwAt.offT {T' : TypeId} {c : Nat} {cs : Array Value} {fz : Nat × Nat} (h : OwAt cl m E A cap xs w) (hc : w.heap[c]? = some (.cells cs T' fz)) (hT : T' ≠ E) : ¬ blk A = some c := fun e => by
  rcases h.block with ⟨rfl, _⟩ | ⟨g, cur, rfl, hg, _⟩
  · simp [blk] at e
  · simp [blk] at e; subst e
    rw [hc] at hg
    simp only [Option.some.injEq, Obj.cells.injEq] at hg
    exact hT hg.2.1
theorem OwAt.sl (hk : EK cl m E) (h : OwAt cl m E A cap xs w) : SlAt cl m E A xs w := by
  rcases h.block with ⟨_, _, h1⟩ | ⟨g, cur, rfl, hg, h1, h2, h3, h4⟩
  · exact .inl h1
  · have hl : ∀ l : List α, (l.flatMap cl).length = l.length * m := fun l => by
      induction l with
      | nil => simp
      | cons x l ih => simp [List.flatMap_cons, hk.len, ih, Nat.add_mul, Nat.add_comm]
    have hle : xs.length * m ≤ cap * m := Nat.mul_le_mul_right m h1
    refine .inr ⟨g, 0, cur, E, _, rfl, hg, by omega, fun i r hr => ?_⟩
    obtain ⟨hlt, he⟩ := List.getElem?_eq_some_iff.1 hr
    have h5 : (i + 1) * m ≤ xs.length * m := Nat.mul_le_mul_right m hlt
    rw [Nat.add_mul, Nat.one_mul] at h5
    have h6 : (cur.toList.drop (0 + i * m)).take m = ((cur.toList.take (xs.length * m)).drop (i * m)).take m := by
      rw [Nat.zero_add, List.drop_take, List.take_take, Nat.min_eq_left (by omega)]
    rw [h6, h4]
    have h7 : xs = xs.take i ++ r :: xs.drop (i + 1) := by rw [← he, ← List.drop_eq_getElem_cons hlt, List.take_append_drop]
    have h8 : ((xs.take i).flatMap cl).length = i * m := by rw [hl]; simp [Nat.min_eq_left (Nat.le_of_lt hlt)]
    rw [h7, List.flatMap_append, List.flatMap_cons, ← h8, List.drop_left, List.take_append_of_le_length (by rw [hk.len]; exact Nat.le_refl _), List.take_of_length_le (by rw [hk.len]; exact Nat.le_refl _)]

theorem run_append_nil {P : Program} {T ty : TypeId} (hT : P.underlying T = some (.slice E)) {i : TypeInfo} (hi : P.info? E = some i) (h : OwAt cl m E A cap xs w) (c : Nat) :
    (Builtin.append_ #[T, T] ty #[.slice A xs.length cap, .slice none 0 c]).run P w = .ok (.slice A xs.length cap) w := by
  rcases h.block with ⟨rfl, rfl, rfl⟩ | ⟨g, cur, rfl, hg, h1, _⟩
  · simp [Builtin.append_, run_underlying hT, sizeOf, typeInfo, hi, Builtin.lenOf, Builtin.firstCells]
  · simp [Builtin.append_, run_underlying hT, sizeOf, typeInfo, hi, Builtin.lenOf, Builtin.firstCells, h1, storeCells]
theorem olink_step {w0 : World} (ol : ∀ i, blk A = some i → w0.heap.size ≤ i) (K : Keeps S w0 w) (n : blk A' = blk A ∨ ∃ k, blk A' = some k ∧ w.heap.size ≤ k) : ∀ i, blk A' = some i → w0.heap.size ≤ i := fun i hi => by
  rcases n with e | ⟨k, e, hk⟩
  · exact ol i (e ▸ hi)
  · rw [e] at hi; cases hi; exact Nat.le_trans K.size hk
theorem adds_nil (k : Keeps (fun i => blk none = some i) w w') : Adds w w' := k.mono (fun i _ e => by simp [blk] at e)
/-- append: of whatever reads as a list, to the call's own. -/
theorem run_append_sl {T ty : TypeId} (hk : EK cl m E) (hT : Tryz.prog.underlying T = some (.slice E)) (h : OwAt cl m E A cap xs w) {A2 : Option Addr} (hs : SlAt cl m E A2 ys w) (c : Nat) (hb : xs.length + ys.length ≤ 100000000000) :
    ∃ A' cap' w', (Builtin.append_ #[T, T] ty #[.slice A xs.length cap, .slice A2 ys.length c]).run Tryz.prog w = .ok (.slice A' (xs ++ ys).length cap') w' ∧ OwAt cl m E A' cap' (xs ++ ys) w' ∧ Keeps (fun k => blk A = some k) w w' ∧ (blk A' = blk A ∨ ∃ k, blk A' = some k ∧ w.heap.size ≤ k) := by
  obtain ⟨i, z, hi, hz, h1, h2, h3⟩ := hk.info
  have hl : ∀ l : List α, (l.flatMap cl).length = l.length * m := fun l => by
    induction l with
    | nil => simp
    | cons x l ih => simp [List.flatMap_cons, hk.len, ih, Nat.add_mul, Nat.add_comm]
  have core : ∀ (ad : Addr), (∀ j u, (ys.flatMap cl)[j]? = some u → w.cell? (ad.add j) = some u) → ∃ A' cap' w', (Builtin.append_ #[T, T] ty #[.slice A xs.length cap, .slice (some ad) ys.length c]).run Tryz.prog w = .ok (.slice A' (xs ++ ys).length cap') w' ∧ OwAt cl m E A' cap' (xs ++ ys) w' ∧ Keeps (fun k => blk A = some k) w w' ∧ (blk A' = blk A ∨ ∃ k, blk A' = some k ∧ w.heap.size ≤ k) := by
    intro ad hc
    have hbytes : (xs.length + ys.length) * i.bytes ≤ 140737488355328 := by
      have : (xs.length + ys.length) * i.bytes ≤ 100000000000 * 512 := Nat.mul_le_mul hb h3
      omega
    obtain ⟨v', w', hr, ho, hg, _, hn⟩ := run_append_own_at (P := Tryz.prog) w 0 T ty E i z m i.bytes hT hi hz h1 rfl h2 hk.pos _ _ _ h ad ys.length c (ys.flatMap cl) (hl ys) hc (fun u hu => by
      obtain ⟨x, _, hx⟩ := List.mem_flatMap.1 hu
      exact hk.one x u hx) (by unfold maxLen; omega) hbytes (Nat.zero_le _)
    have hown : ∀ A : Option Addr, ∀ n c : Nat, (Value.slice A n c).ownBlock = blk A := fun A n c => by cases A <;> rfl
    obtain ⟨A', cap', rfl⟩ : ∃ A' cap', v' = .slice A' (xs.length + ys.length) cap' := by
      rcases ho.2 with ⟨e, e0⟩ | ⟨g, cap', cur, e, _⟩
      · exact ⟨none, 0, by rw [e]; simp; omega⟩
      · exact ⟨_, _, e⟩
    rw [hown, hown] at hn
    refine ⟨A', cap', w', by rw [hr, List.length_append], by unfold OwAt; rw [List.length_append, List.flatMap_append]; exact ho, ⟨hg.os, hg.tape, hg.output, hg.size, fun k hk' hs' => hg.block k hk' (fun e => hs' (by rw [hown] at e; exact e.symm))⟩, ?_⟩
    rcases hn with e | e
    · exact .inl e
    · exact .inr ⟨_, e, Nat.le_refl _⟩
  rcases hs with rfl | ⟨b, o, cs, E', fz, rfl, hb', hs', hc'⟩
  · cases A2 with
    | none =>
      refine ⟨A, cap, w, ?_, by simpa using h, Keeps.refl _ _, .inl rfl⟩
      have := run_append_nil (ty := ty) hT hi h c
      simpa using this
    | some ad => exact core ad (by simp)
  · refine core _ (fun j u hj => ?_)
    have hjl : j < (ys.flatMap cl).length := (List.getElem?_eq_some_iff.1 hj).1
    rw [hl] at hjl
    have hdm := Nat.div_add_mod j m
    have hmod := Nat.mod_lt j hk.pos
    have hq : j / m < ys.length := Nat.div_lt_of_lt_mul (by rw [Nat.mul_comm]; exact hjl)
    have hel := hc' _ _ (List.getElem?_eq_getElem hq)
    have h7 : ys = ys.take (j / m) ++ ys[j / m] :: ys.drop (j / m + 1) := by rw [← List.drop_eq_getElem_cons hq, List.take_append_drop]
    have h8 : ((ys.take (j / m)).flatMap cl).length = j / m * m := by rw [hl]; simp [Nat.min_eq_left (Nat.le_of_lt hq)]
    have hj2 : (cl ys[j / m])[j % m]? = some u := by
      rw [h7, List.flatMap_append, List.flatMap_cons] at hj
      rw [List.getElem?_append_right (by rw [h8, Nat.mul_comm]; omega), h8] at hj
      have e : j - j / m * m = j % m := by rw [Nat.mul_comm]; omega
      rw [e, List.getElem?_append_left (by rw [hk.len]; exact hmod)] at hj
      exact hj
    rw [addr_add b o j]
    have hE : ElAt cl m E b (o + j / m * m) ys[j / m] w := ⟨cs, E', fz, hb', by
      have : (j / m + 1) * m ≤ ys.length * m := Nat.mul_le_mul_right m hq
      rw [Nat.add_mul, Nat.one_mul] at this; omega, hel⟩
    have := hE.get hmod hj2
    rw [show o + j / m * m + j % m = o + j by rw [Nat.mul_comm (j / m)]; omega] at this
    exact this
end

section
variable {α : Type} {cl : α → List Value} {m : Nat} {E : TypeId} {ops : Array Oper} {n : Md} {Q : Exit → Act → World → Prop} {rest : List Oper} {fr : Fr} {w : World}
theorem WL.append {T : TypeId} {x y : Operand} {A A2 : Option Addr} {cap c d : Nat} {xs ys : List α} {ty : TypeId} {ps : String} {af : Array Edge} {g : Option (Nat × Bool)} (hk : EK cl m E) (h : OwAt cl m E A cap xs w) (hs : SlAt cl m E A2 ys w) (hb : xs.length + ys.length ≤ 100000000000)
    (hT : Tryz.prog.underlying T = some (.slice E) := by kernel_rfl) (hw : want ops fr ⟨some d, .call ⟨.builtin .append, #[x, y], #[T, T]⟩, ty, ps, af, g⟩ = some true := by kernel_rfl) (hx : ev fr x = some (.slice A xs.length cap) := by kernel_rfl) (hy : ev fr y = some (.slice A2 ys.length c) := by kernel_rfl) (hn : Nat.blt d n.n = true := by kernel_rfl)
    (k : ∀ A' cap' w', OwAt cl m E A' cap' (xs ++ ys) w' → Keeps (fun k => blk A = some k) w w' → (blk A' = blk A ∨ ∃ k, blk A' = some k ∧ w.heap.size ≤ k) → WL Tryz.prog ops n Q rest ((d, .slice A' (xs ++ ys).length cap') :: fr) w') : WL Tryz.prog ops n Q (⟨some d, .call ⟨.builtin .append, #[x, y], #[T, T]⟩, ty, ps, af, g⟩ :: rest) fr w :=
  WL.wanted hw fun a ha K hK => by
    obtain ⟨A', cap', w', hr, h1, h2, h3⟩ := run_append_sl (ty := ty) hk hT h hs c hb
    unfold Oper.wp
    simp only [execOp, resolve, invoke, builtin, List.map_toArray, List.map_cons, List.map_nil, ha.eval hx, ha.eval hy, Sem.run_bind, Sem.run_pure, Result.andThen_ok, hr, Oper.upon_value]
    exact hK _ _ (k A' cap' w' h1 h2 h3 _ (ha.put hn _))
end

end Go.Proofs.YtdoenmokahbeaaaGreatDoor
