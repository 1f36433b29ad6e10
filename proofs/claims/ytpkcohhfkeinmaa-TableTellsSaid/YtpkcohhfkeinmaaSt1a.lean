
/- Rows of rows; a table with some rows in place of some. -/
import Derived.Test.YtpkcohhfkeinmaaSx7
import Derived.Test.YtpkcohhfkeinmaaSt2
namespace Go.Proofs.Ytpkcohhfkeinmaa
open Go.RowKit
set_option linter.unusedVariables false
set_option linter.unusedSimpArgs false

structure GSl where
  A : Option Addr
  rows : List GRow
  cap : Nat
abbrev slC (s : GSl) : List Value := [.slice s.A s.rows.length s.cap]
theorem ekSl : EK slC 1 22 := EK.of (z := .slice none 0 0) (bt := 24) (fun _ => rfl) (fun _ => rfl) (by decide) (by kernel_rfl) rfl (by decide)
/-- How many rows the first ones have. -/
def sumU (xss : List GSl) (i : Int) : Nat := ((xss.take i.toNat).flatMap GSl.rows).length
theorem sumU_zero (xss : List GSl) : (0 : Int) = (sumU xss 0 : Int) := by simp [sumU]
theorem sumU_succ {xss : List GSl} {i : Int} {r : GSl} (h0 : 0 ≤ i) (hr : xss[i.toNat]? = some r) : (sumU xss (i + 1) : Int) = sumU xss i + r.rows.length := by
  unfold sumU; rw [take_succI h0 hr, List.flatMap_append]; simp
theorem sumU_le {xss : List GSl} (i : Int) : sumU xss i ≤ (xss.flatMap GSl.rows).length := by
  unfold sumU
  have : xss = xss.take i.toNat ++ xss.drop i.toNat := (List.take_append_drop _ _).symm
  have h2 : (xss.flatMap GSl.rows).length = ((xss.take i.toNat).flatMap GSl.rows).length + ((xss.drop i.toNat).flatMap GSl.rows).length := by
    conv => lhs; rw [this]
    rw [List.flatMap_append, List.length_append]
  omega
theorem flat_takeI {xss : List GSl} {i : Int} {r : GSl} (h0 : 0 ≤ i) (hr : xss[i.toNat]? = some r) : (xss.take i.toNat).flatMap GSl.rows ++ r.rows = (xss.take (i + 1).toNat).flatMap GSl.rows := by
  rw [take_succI h0 hr, List.flatMap_append]; simp
theorem sl_mem {xss : List GSl} {w : World} {i : Nat} {r : GSl} (h : ∀ s ∈ xss, SlAt rowC 6 53 s.A s.rows w) (hr : xss[i]? = some r) : SlAt rowC 6 53 r.A r.rows w := h r (List.mem_of_getElem? hr)
theorem flat_len {xss : List GSl} {i : Int} {r : GSl} (h0 : 0 ≤ i) (hr : xss[i.toNat]? = some r) (h : (xss.flatMap GSl.rows).length ≤ 1000000000) : ((xss.take i.toNat).flatMap GSl.rows).length + r.rows.length ≤ 100000000000 := by
  have h1 := sumU_le (xss := xss) (i + 1)
  have h2 := sumU_succ h0 hr
  unfold sumU at h1 h2
  omega

theorem nil_slRow (A : Option Addr) (n c : Nat) (w : World) : (binOp .eql 22 (.slice A n c) (.slice none 0 0)).run Try.prog w = .ok (.bool A.isNone) w := by cases A <;> kernel_rfl
theorem SlAt.isNone {α : Type} {cl : α → List Value} {m : Nat} {E : TypeId} {A : Option Addr} {xs : List α} {w : World} (h : SlAt cl m E A xs w) (hn : A.isNone = true) : xs = [] := by
  rcases h with h | ⟨b, o, cs, E', fz, hA, _⟩
  · exact h
  · rw [hA] at hn; simp at hn
theorem OwAt.empty {α : Type} {cl : α → List Value} {m : Nat} {E : TypeId} {b : Nat} {w : World} (h : w.heap[b]? = some (.cells #[] E (0, 0))) : OwAt cl m E (some ⟨b, 0, none⟩) 0 ([] : List α) w :=
  ⟨by simp, .inr ⟨b, 0, #[], rfl, Nat.zero_le _, h, Nat.zero_le _, Nat.zero_le _, by simp, by simp⟩⟩

theorem takeWhile_ge : ∀ {rows : List GRow} {x : Int} {n : Nat}, (∀ k q, k ≤ n → rows[k]? = some q → q.task.id < x) → n < rows.length → n < (rows.takeWhile fun r => decide (r.task.id < x)).length
  | [], x, n, _, h => by simp at h
  | r :: rows, x, 0, h, _ => by have := h 0 r (by omega) rfl; simp [List.takeWhile_cons, this]
  | r :: rows, x, n + 1, h, hl => by
    have h0 := h 0 r (by omega) rfl
    have := takeWhile_ge (rows := rows) (x := x) (n := n) (fun k q hk hq => h (k + 1) q (by omega) (by simpa using hq)) (by simpa using hl)
    simp [List.takeWhile_cons, h0, this]
theorem takeWhile_lt : ∀ {rows : List GRow} {x : Int} {n : Nat} {q : GRow}, n < posR rows x → rows[n]? = some q → q.task.id < x
  | [], x, n, q, h, _ => by simp [posR] at h
  | r :: rows, x, n, q, h, hq => by
    unfold posR at h
    rw [List.takeWhile_cons] at h
    split at h
    · rename_i hc
      cases n with
      | zero => simp at hq; subst hq; simpa using hc
      | succ n => exact takeWhile_lt (rows := rows) (by unfold posR; simpa using h) (by simpa using hq)
    · simp at h

/-! what ops do to a table -/
theorem has_lt {rows : List GRow} {x : Int} (h : hasR rows x = true) : (posR rows x : Int) < rows.length := by
  unfold hasR at h
  split at h
  · rename_i r hr; have := (List.getElem?_eq_some_iff.1 hr).1; omega
  · cases h
theorem has_no {rows : List GRow} {x : Int} (h : hasR rows x = false) : hasR rows x = false := h
def GTable.zero : GTable := ⟨[], 0⟩
def GOp.row (o : GOp) : GRow := ⟨o.task, o.sv⟩
noncomputable def admitT (t : GTable) (o : GOp) : GTable × Int :=
  if hasR t.rows o.task.id = true then (GTable.zero, 14) else if (t.rows.length : Int) ≥ 16 then (GTable.zero, 15)
  else (⟨t.rows.take (posR t.rows o.task.id) ++ ([⟨o.task, o.sv⟩] ++ t.rows.drop (posR t.rows o.task.id)), t.mode⟩, 0)
noncomputable def applyT (t : GTable) (o : GOp) : GTable × Int :=
  if tokB t = false then (GTable.zero, 1) else if decide (GOp.ok o) = false then (GTable.zero, 1)
  else if o.kind = 1 then admitT t o else if o.kind = 4 then (⟨t.rows, o.m⟩, 0)
  else if hasR t.rows o.id = false then (GTable.zero, 12)
  else if o.kind = 2 then (⟨t.rows.take (posR t.rows o.id) ++ t.rows.drop (posR t.rows o.id + 1), t.mode⟩, 0)
  else match t.rows[posR t.rows o.id]? with
    | none => (GTable.zero, 1)
    | some r => if o.c > r.task.d then (GTable.zero, 1) else (⟨t.rows.take (posR t.rows o.id) ++ ([⟨⟨r.task.id, o.c, r.task.d, r.task.t, r.task.m⟩, r.sv⟩] ++ t.rows.drop (posR t.rows o.id + 1)), t.mode⟩, 0)
/-- A table that comes back, with a number. -/
def TabRes (r : GTable × Int) (w : World) (e : Ending) (w' : World) : Prop :=
  ∃ A c, e = .returned (.tuple #[.agg #[.slice A r.1.rows.length c, .int .i64 r.1.mode], .int .i64 r.2]) ∧ OwAt rowC 6 53 A c r.1.rows w' ∧ Adds w w' ∧ (∀ i, blk A = some i → w.heap.size ≤ i)
theorem TabRes.mk {A : Option Addr} {c : Nat} {rows : List GRow} {md x : Int} {r : GTable × Int} {w w' : World} {e : Ending} (h : (⟨rows, md⟩, x) = r) (he : e = .returned (.tuple #[.agg #[.slice A rows.length c, .int .i64 md], .int .i64 x])) (ho : OwAt rowC 6 53 A c rows w') (k : Adds w w') (l : ∀ i, blk A = some i → w.heap.size ≤ i) : TabRes r w e w' := by
  subst h; exact ⟨A, c, he, ho, k, l⟩
theorem TabRes.nil {md x : Int} {r : GTable × Int} {w w' : World} {e : Ending} (h : (⟨[], md⟩, x) = r) (he : e = .returned (.tuple #[.agg #[.slice none 0 0, .int .i64 md], .int .i64 x])) (k : Adds w w') : TabRes r w e w' :=
  TabRes.mk (A := none) (c := 0) h he OwAt.nil k (by simp [blk])

/-! an insertion, step by step -/
def insU (rows : List GRow) (x : GRow) (p : Nat) (i : Int) : List GRow := if (p : Int) < i then rows.take p ++ (x :: (rows.take i.toNat).drop p) else rows.take i.toNat
theorem insU_zero (rows : List GRow) (x : GRow) (p : Nat) : insU rows x p 0 = [] := by unfold insU; rw [if_neg (by omega)]; simp
theorem insU_len (rows : List GRow) (x : GRow) (p : Nat) (i : Int) : (insU rows x p i).length ≤ rows.length + 1 + rows.length := by
  unfold insU; split <;> simp <;> omega
theorem insU_before {rows : List GRow} {x r : GRow} {p : Nat} {i : Int} (h0 : 0 ≤ i) (hr : rows[i.toNat]? = some r) (hp : i < p) : insU rows x p i ++ [r] = insU rows x p (i + 1) := by
  unfold insU; rw [if_neg (by omega), if_neg (by omega), take_succI h0 hr]
theorem insU_after {rows : List GRow} {x r : GRow} {p : Nat} {i : Int} (h0 : 0 ≤ i) (hr : rows[i.toNat]? = some r) (hp : (p : Int) < i) : insU rows x p i ++ [r] = insU rows x p (i + 1) := by
  have hl := (List.getElem?_eq_some_iff.1 hr).1
  unfold insU; rw [if_pos hp, if_pos (by omega), take_succI h0 hr, List.drop_append_of_le_length (by simp; omega)]; simp
theorem insU_at {rows : List GRow} {x r : GRow} {p : Nat} {i : Int} (h0 : 0 ≤ i) (hr : rows[i.toNat]? = some r) (hp : (p : Int) = i) : insU rows x p i ++ [x] ++ [r] = insU rows x p (i + 1) := by
  have hl := (List.getElem?_eq_some_iff.1 hr).1
  have e : p = i.toNat := by omega
  unfold insU; rw [if_neg (by omega), if_pos (by omega), take_succI h0 hr, e, List.drop_append_of_le_length (by simp; omega)]; simp
theorem insU_end {rows : List GRow} {x : GRow} {p : Nat} {i : Int} (h1 : (rows.length : Int) ≤ i) (hp : (p : Int) < i) (hl : p ≤ rows.length) : insU rows x p i = rows.take p ++ ([x] ++ rows.drop p) := by
  unfold insU; rw [if_pos hp, List.take_of_length_le (show rows.length ≤ i.toNat by omega)]; simp
theorem insU_last {rows : List GRow} {x : GRow} {p : Nat} {i : Int} (h1 : (rows.length : Int) ≤ i) (hp : ¬ (p : Int) < i) (hl : p ≤ rows.length) : insU rows x p i ++ [x] = rows.take p ++ ([x] ++ rows.drop p) := by
  unfold insU; rw [if_neg hp, List.take_of_length_le (show rows.length ≤ i.toNat by omega), List.take_of_length_le (show rows.length ≤ p by omega), List.drop_of_length_le (by omega)]; simp
theorem pos_gt {rows : List GRow} {x i : Int} {r : GRow} (hs : sortedR rows) (hn : idxR rows x < 0) (h0 : 0 ≤ i) (hr : rows[i.toNat]? = some r) : (posR rows x : Int) ≤ i ↔ r.task.id > x := by
  have hl := (List.getElem?_eq_some_iff.1 hr).1
  constructor
  · intro hp
    have hne : r.task.id ≠ x := by
      intro e
      have := idx_neg hn
      unfold findR at this
      rw [List.find?_eq_none] at this
      exact this r (List.mem_of_getElem? hr) (by simp [e])
    have h2 : ¬ r.task.id < x := by
      intro hlt
      have hall : ∀ k q, k ≤ i.toNat → rows[k]? = some q → q.task.id < x := fun k q hk hq => by
        by_cases e : k = i.toNat
        · subst e; rw [hr] at hq; cases hq; exact hlt
        · have := hs k i.toNat q r (by omega) hq hr; omega
      have := takeWhile_ge hall hl
      unfold posR at hp; omega
    omega
  · intro hg
    refine Decidable.byContradiction fun hp => ?_
    have hlt : i.toNat < posR rows x := by omega
    have := takeWhile_lt hlt hr
    omega
theorem idx_some {rows : List GRow} {x : Int} (h : idxR rows x ≥ 0) : ∃ r, rows[(idxR rows x).toNat]? = some r ∧ r.task.id = x := by
  unfold idxR at h ⊢
  split at h
  · rename_i i hi
    rw [List.findIdx?_eq_some_iff_getElem] at hi
    obtain ⟨hlt, he, _⟩ := hi
    exact ⟨rows[i], by simp [hlt], by simpa using he⟩
  · omega
theorem has_idx {rows : List GRow} {x : Int} (hs : sortedR rows) (h : idxR rows x ≥ 0) : hasR rows x = true ∧ (posR rows x : Int) = idxR rows x := by
  obtain ⟨r, hr, he⟩ := idx_some h
  have hl := (List.getElem?_eq_some_iff.1 hr).1
  have hp : posR rows x = (idxR rows x).toNat := pos_unique (by omega) (fun k q hk hq => by have := hs k _ q r hk hq hr; omega) (fun q hq => by rw [hr] at hq; cases hq; omega)
  refine ⟨?_, by omega⟩
  unfold hasR
  rw [hp, hr]; simpa using he
theorem has_neg {rows : List GRow} {x : Int} (h : idxR rows x < 0) : hasR rows x = false := by
  refine Bool.eq_false_iff.2 fun hh => ?_
  unfold hasR at hh
  split at hh
  · rename_i r hr
    have := idx_neg h
    unfold findR at this
    rw [List.find?_eq_none] at this
    exact this r (List.mem_of_getElem? hr) hh
  · cases hh

end Go.Proofs.Ytpkcohhfkeinmaa
