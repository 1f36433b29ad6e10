
/- A mode's tasks, plainly. -/
import Derived.Test.YtpkcohhfkeinmaaSx8
import Derived.Test.YtpkcohhfkeinmaaSt1b
namespace Go.Proofs.Ytpkcohhfkeinmaa
open Go.RowKit
set_option linter.unusedVariables false
set_option linter.unusedSimpArgs false

def bitB (md : Int) (k : GTask) : Int := bits .and .i64 (k.m / 2 ^ md.toNat) 1
def delB (md : Int) (k : GTask) : Bool := if md < 0 then true else if md ≥ 4 then true else bitB md k == 0
def keepL (md : Int) (xs : List GTask) : List GTask := xs.filter (fun k => !delB md k)
theorem keepL_len (md : Int) (xs : List GTask) : (keepL md xs).length ≤ xs.length := List.length_filter_le _ _
def firstD (md : Int) (xs : List GTask) (j : Int) : Prop := (j = -1 ∧ ∀ x ∈ xs, delB md x = false) ∨ (0 ≤ j ∧ j < xs.length ∧ ∀ (k : Nat) x, (k : Int) < j → xs[k]? = some x → delB md x = false) ∧ (∀ x, xs[j.toNat]? = some x → delB md x = true)
def noneD (md : Int) (xs : List GTask) (i : Int) : Prop := ∀ (k : Nat) x, (k : Int) < i → xs[k]? = some x → delB md x = false
theorem noneD_zero (md : Int) (xs : List GTask) : noneD md xs 0 := fun k x h => by omega
theorem noneD_succ {md : Int} {xs : List GTask} {i : Int} {r : GTask} (h0 : 0 ≤ i) (h : noneD md xs i) (hr : xs[i.toNat]? = some r) (hn : delB md r = false) : noneD md xs (i + 1) := fun k q hk hq => by
  by_cases e : k = i.toNat
  · subst e; rw [hr] at hq; cases hq; exact hn
  · exact h k q (by omega) hq
theorem first_at {md : Int} {xs : List GTask} {i : Int} {r : GTask} (h0 : 0 ≤ i) (h : noneD md xs i) (hr : xs[i.toNat]? = some r) (hn : delB md r = true) : firstD md xs i :=
  .inr ⟨⟨h0, by have := (List.getElem?_eq_some_iff.1 hr).1; omega, h⟩, fun x hx => by rw [hr] at hx; cases hx; exact hn⟩
theorem first_no {md : Int} {xs : List GTask} {i : Int} (h1 : (xs.length : Int) ≤ i) (h : noneD md xs i) : firstD md xs (-1) := .inl ⟨rfl, fun x hx => by
  obtain ⟨k, hk, he⟩ := List.getElem_of_mem hx
  exact h k x (by omega) (by rw [List.getElem?_eq_getElem hk, he])⟩
theorem first_keep {md : Int} {xs : List GTask} {j : Int} (h : firstD md xs j) (e : j = -1) : keepL md xs = xs := by
  rcases h with ⟨_, h⟩ | ⟨⟨h, _⟩, _⟩
  · unfold keepL; rw [List.filter_eq_self]; intro x hx; simp [h x hx]
  · omega
theorem first_rng {md : Int} {xs : List GTask} {j : Int} (h : firstD md xs j) (e : ¬ j = -1) : 0 ≤ j ∧ j < xs.length := by
  rcases h with ⟨h, _⟩ | ⟨⟨h, h2, _⟩, _⟩
  · exact absurd h e
  · exact ⟨h, h2⟩
theorem keep_take {md : Int} {xs : List GTask} {j : Int} {r : GTask} (h0 : 0 ≤ j) (hr : xs[j.toNat]? = some r) : keepL md (xs.take (j + 1).toNat) = keepL md (xs.take j.toNat) ++ (if delB md r then [] else [r]) := by
  unfold keepL; rw [take_succI h0 hr, List.filter_append]
  cases h : delB md r <;> simp [h]
theorem del_start {md : Int} {xs : List GTask} {j : Int} (h : firstD md xs j) (e : ¬ j = -1) : xs.take j.toNat = keepL md (xs.take (j + 1).toNat) := by
  rcases h with ⟨h, _⟩ | ⟨⟨h0, h1, h2⟩, h3⟩
  · exact absurd h e
  · have hr : xs[j.toNat]? = some xs[j.toNat] := List.getElem?_eq_getElem (by omega)
    rw [keep_take h0 hr, h3 _ hr, if_pos rfl, List.append_nil]
    unfold keepL
    refine (List.filter_eq_self.2 fun x hx => ?_).symm
    obtain ⟨k, hk, he⟩ := List.getElem_of_mem hx
    simp only [List.length_take] at hk
    rw [List.getElem_take] at he
    have := h2 k x (by omega) (by rw [List.getElem?_eq_getElem (by omega), he])
    simp [this]
section
variable {md : Int} {xs zs : List GTask} {i j : Int} {r : GTask}
theorem del_at (j0 : 0 ≤ j) (hd : zs.drop j.toNat = xs.drop j.toNat) (hr : zs[j.toNat]? = some r) : xs[j.toNat]? = some r := by
  have h1 := congrArg (fun l => l[0]?) hd
  simp only [List.getElem?_drop, Nat.add_zero] at h1
  rw [← h1, hr]
theorem drop_succ (j0 : 0 ≤ j) (hd : zs.drop j.toNat = xs.drop j.toNat) : zs.drop (j + 1).toNat = xs.drop (j + 1).toNat := by
  rw [show (j + 1).toNat = j.toNat + 1 by omega, ← List.drop_drop, ← List.drop_drop, hd]
theorem del_drop (j0 : 0 ≤ j) (hd : zs.drop j.toNat = xs.drop j.toNat) (hr : zs[j.toNat]? = some r) (h : delB md r = true) (ht : zs.take i.toNat = keepL md (xs.take j.toNat)) : zs.take i.toNat = keepL md (xs.take (j + 1).toNat) := by
  rw [keep_take j0 (del_at j0 hd hr), h, if_pos rfl, List.append_nil, ht]
theorem del_keep (i0 : 0 ≤ i) (ij : i < j) (hd : zs.drop j.toNat = xs.drop j.toNat) (hr : zs[j.toNat]? = some r) (h : delB md r = false) (ht : zs.take i.toNat = keepL md (xs.take j.toNat)) : (zs.set i.toNat r).take (i + 1).toNat = keepL md (xs.take (j + 1).toNat) := by
  have hl := (List.getElem?_eq_some_iff.1 hr).1
  rw [keep_take (by omega) (del_at (by omega) hd hr), h]
  have h2 : (zs.set i.toNat r)[i.toNat]? = some r := by rw [List.getElem?_set_self (by omega)]
  rw [take_succI i0 h2, List.take_set_of_le (Nat.le_refl _), ht]
  simp
theorem del_keepd (i0 : 0 ≤ i) (ij : i < j) (hd : zs.drop j.toNat = xs.drop j.toNat) : (zs.set i.toNat r).drop (j + 1).toNat = xs.drop (j + 1).toNat := by
  rw [List.drop_set_of_lt (by omega)]
  exact drop_succ (by omega) hd
theorem del_end (h1 : (xs.length : Int) ≤ j) (ht : zs.take i.toNat = keepL md (xs.take j.toNat)) : zs.take i.toNat = keepL md xs := by
  rw [ht, List.take_of_length_le (by omega)]
/-- The document's In goes over the rows. -/
def inU (md : Int) (rows : List GRow) (i : Int) : List GTask := keepL md ((rows.take i.toNat).map GRow.task)
theorem inU_zero (rows : List GRow) : inU md rows 0 = [] := by simp [inU, keepL]
theorem inU_yes {rows : List GRow} {q : GRow} (h0 : 0 ≤ i) (hr : rows[i.toNat]? = some q) (m0 : 0 ≤ md) (m1 : md ≤ 3) (h : bits .and .i64 (q.task.m / 2 ^ md.toNat) 1 = 1) : inU md rows i ++ [q.task] = inU md rows (i + 1) := by
  have hd : delB md q.task = false := by
    unfold delB bitB; rw [if_neg (by omega), if_neg (by omega), h]; rfl
  unfold inU keepL
  rw [take_succI h0 hr, List.map_append, List.filter_append]; simp [hd]
theorem inU_no {rows : List GRow} {q : GRow} (h0 : 0 ≤ i) (hr : rows[i.toNat]? = some q) (m0 : 0 ≤ md) (m1 : md ≤ 3) (h : ¬ bits .and .i64 (q.task.m / 2 ^ md.toNat) 1 = 1) : inU md rows i = inU md rows (i + 1) := by
  have hb : bits .and .i64 (q.task.m / 2 ^ md.toNat) 1 = 0 := (bits_and1 _).resolve_right h
  have hd : delB md q.task = true := by
    unfold delB bitB; rw [if_neg (by omega), if_neg (by omega), hb]; rfl
  unfold inU keepL
  rw [take_succI h0 hr, List.map_append, List.filter_append]; simp [hd]
theorem keepL_out {xs : List GTask} (h : md < 0 ∨ md > 3) : keepL md xs = [] := by
  unfold keepL
  rw [List.filter_eq_nil_iff]
  intro k _
  have : delB md k = true := by
    unfold delB
    rcases h with h | h
    · rw [if_pos h]
    · rw [if_neg (by omega), if_pos (by omega)]
  simp [this]
theorem inU_end {rows : List GRow} (hi : inU md rows i = inU md rows i) (h0 : 0 ≤ i) (h : ¬ ((i < rows.length ∧ md ≥ 0) ∧ md ≤ 3)) : inU md rows i = keepL md (rows.map GRow.task) := by
  by_cases hm : md < 0 ∨ md > 3
  · rw [inU, keepL_out hm, keepL_out hm]
  · unfold inU; rw [List.take_of_length_le (by omega)]
theorem inU_len (rows : List GRow) : (inU md rows i).length ≤ rows.length := by
  unfold inU
  refine Nat.le_trans (keepL_len _ _) ?_
  simp; omega
end

theorem in_at {md : Int} {rows : List GRow} {i : Int} {q : GRow} (h0 : 0 ≤ i) (hr : rows[i.toNat]? = some q) (m0 : 0 ≤ md) (m1 : md ≤ 3) (h : bits .and .i64 (q.task.m / 2 ^ md.toNat) 1 = 1) : (keepL md (rows.map GRow.task))[(inU md rows i).length]? = some q.task := by
  have hl := (List.getElem?_eq_some_iff.1 hr).1
  have h1 := inU_yes h0 hr m0 m1 h
  have h2 : keepL md (rows.map GRow.task) = inU md rows (i + 1) ++ keepL md ((rows.drop (i + 1).toNat).map GRow.task) := by
    unfold inU keepL
    rw [← List.filter_append, ← List.map_append, List.take_append_drop]
  rw [h2, ← h1, List.append_assoc, List.getElem?_append_right (Nat.le_refl _)]
  simp
theorem in_lt {md : Int} {rows : List GRow} {i : Int} {q : GRow} (h0 : 0 ≤ i) (hr : rows[i.toNat]? = some q) (m0 : 0 ≤ md) (m1 : md ≤ 3) (h : bits .and .i64 (q.task.m / 2 ^ md.toNat) 1 = 1) : (inU md rows i).length < (keepL md (rows.map GRow.task)).length :=
  (List.getElem?_eq_some_iff.1 (in_at h0 hr m0 m1 h)).1
theorem apply_mode {t : GTable} {m : Int} (h : t.ok) (m0 : 0 ≤ m) (m1 : m ≤ 3) : applyT t ⟨4, ⟨0, 0, 0, 0, 0⟩, false, 0, 0, m⟩ = (⟨t.rows, m⟩, 0) := by
  have ho : GOp.ok ⟨4, ⟨0, 0, 0, 0, 0⟩, false, 0, 0, m⟩ := by
    refine ⟨by simp [GOp.bare], ?_⟩
    unfold GOp.right
    simp; omega
  unfold applyT
  rw [tok_eqt h]
  simp [ho]

end Go.Proofs.Ytpkcohhfkeinmaa
