
/- What ops leave of a table may be; tables by ops; a table's bytes. -/
import Derived.Test.YtpkcohhfkeinmaaSt1a
import Derived.Test.YtpkcohhfkeinmaaSy3
namespace Go.Proofs.Ytpkcohhfkeinmaa
open Go.RowKit
set_option linter.unusedVariables false
set_option linter.unusedSimpArgs false

theorem ok_iff {t : GTable} : t.ok ↔ (∀ r ∈ t.rows, r.ok) ∧ t.rows.Pairwise (fun a b => a.task.id < b.task.id) ∧ t.rows.length ≤ 16 ∧ 0 ≤ t.mode ∧ t.mode ≤ 3 := by
  constructor
  · intro h
    refine ⟨fun r hr => ?_, ?_, h.2⟩
    · obtain ⟨i, hi, he⟩ := List.getElem_of_mem hr
      exact (h.1 i r hi (by rw [List.getElem?_eq_getElem hi, he])).1
    · rw [List.pairwise_iff_getElem]
      intro i j hi hj hij
      exact upTo_sorted h.1 i j _ _ hij (List.getElem?_eq_getElem hi) (List.getElem?_eq_getElem hj)
  · intro h
    refine ⟨fun i r hi hr => ⟨h.1 r (List.mem_of_getElem? hr), fun j q hj hq => ?_⟩, h.2.2⟩
    obtain ⟨h1, e1⟩ := List.getElem?_eq_some_iff.1 hr
    obtain ⟨h2, e2⟩ := List.getElem?_eq_some_iff.1 hq
    have := List.pairwise_iff_getElem.1 h.2.1 j i h2 h1 (by omega)
    rw [e1, e2] at this; exact this
theorem pos_ge : ∀ {rows : List GRow} {x : Int} {r : GRow}, rows[posR rows x]? = some r → x ≤ r.task.id
  | [], x, r, h => by simp at h
  | q :: rows, x, r, h => by
    unfold posR at h
    rw [List.takeWhile_cons] at h
    split at h
    · exact pos_ge (rows := rows) (by unfold posR; simpa using h)
    · rename_i hc; simp at h hc; subst h; omega
theorem drop_gt {rows : List GRow} {x : Int} (hs : sortedR rows) (hn : hasR rows x = false) : ∀ a ∈ rows.drop (posR rows x), x < a.task.id := by
  intro a ha
  obtain ⟨k, hk, he⟩ := List.getElem_of_mem ha
  simp only [List.length_drop] at hk
  have hr : rows[posR rows x + k]? = some a := by rw [← List.getElem?_drop, List.getElem?_eq_getElem (by simpa using hk), he]
  have hp : rows[posR rows x]? = some rows[posR rows x] := List.getElem?_eq_getElem (by omega)
  have h1 := pos_ge hp
  have h2 : rows[posR rows x].task.id ≠ x := by
    intro e
    unfold hasR at hn
    rw [hp] at hn
    simp [e] at hn
  by_cases hk0 : k = 0
  · subst hk0; rw [Nat.add_zero, hp] at hr; cases hr; omega
  · have := hs _ _ _ _ (show posR rows x < posR rows x + k by omega) hp hr; omega
theorem take_lt {rows : List GRow} {x : Int} : ∀ a ∈ rows.take (posR rows x), a.task.id < x := by
  intro a ha
  obtain ⟨k, hk, he⟩ := List.getElem_of_mem ha
  simp only [List.length_take] at hk
  refine takeWhile_lt (rows := rows) (n := k) (by omega) ?_
  rw [List.getElem_take] at he
  rw [List.getElem?_eq_getElem (by omega), he]
theorem mid_ids {rows : List GRow} {p : Nat} {r r' : GRow} (hr : rows[p]? = some r) (h : r'.task.id = r.task.id) : (rows.take p ++ ([r'] ++ rows.drop (p + 1))).map (·.task.id) = rows.map (·.task.id) := by
  obtain ⟨hp, he⟩ := List.getElem?_eq_some_iff.1 hr
  have h1 : rows = rows.take p ++ rows[p] :: rows.drop (p + 1) := by rw [← List.drop_eq_getElem_cons hp, List.take_append_drop]
  conv => rhs; rw [h1]
  simp [he, h]
theorem apply_ok {t : GTable} {o : GOp} (h : (applyT t o).2 = 0) : (applyT t o).1.ok ∧ t.ok ∧ o.ok := by
  unfold applyT at h ⊢
  split at h
  · simp at h
  rename_i ht
  split at h
  · simp at h
  rename_i ho
  have hok : t.ok := tok_t (by simpa using ht)
  have hop : o.ok := by simpa using ho
  have hh := ok_iff.1 hok
  have hs := upTo_sorted hok.1
  have hri := hop.2
  rw [if_neg ht, if_neg ho]
  refine ⟨?_, hok, hop⟩
  split at h
  · rename_i hk
    rw [if_pos hk]
    unfold GOp.right at hri
    rw [if_pos hk] at hri
    unfold admitT at h ⊢
    split at h
    · simp at h
    rename_i hn
    split at h
    · simp at h
    rename_i hl
    rw [if_neg hn, if_neg hl]
    have hn' : hasR t.rows o.task.id = false := by simpa using hn
    refine ok_iff.2 ⟨fun r hr => ?_, ?_, ?_, hh.2.2.2⟩
    · simp only [List.mem_append, List.mem_singleton] at hr
      rcases hr with hr | rfl | hr
      · exact hh.1 r (List.mem_of_mem_take hr)
      · exact hri
      · exact hh.1 r (List.mem_of_mem_drop hr)
    · have hpw := hh.2.1
      rw [← List.take_append_drop (posR t.rows o.task.id) t.rows, List.pairwise_append] at hpw
      rw [List.pairwise_append]
      refine ⟨hpw.1, ?_, fun a ha b hb => ?_⟩
      · simp only [List.cons_append, List.nil_append, List.pairwise_cons]
        exact ⟨drop_gt hs hn', hpw.2.1⟩
      · simp only [List.cons_append, List.nil_append, List.mem_cons] at hb
        rcases hb with rfl | hb
        · exact take_lt a ha
        · exact hpw.2.2 a ha b hb
    · have := pos_le t.rows o.task.id
      simp; omega
  rename_i hk
  rw [if_neg hk]
  unfold GOp.right at hri
  rw [if_neg hk] at hri
  split at h
  · rename_i hk4
    rw [if_pos hk4]
    rw [if_neg (by omega), if_neg (by omega), if_pos hk4] at hri
    exact ok_iff.2 ⟨hh.1, hh.2.1, hh.2.2.1, hri.1, by simp; omega⟩
  rename_i hk4
  rw [if_neg hk4]
  split at h
  · simp at h
  rename_i hn
  rw [if_neg hn]
  split at h
  · rename_i hk2
    rw [if_pos hk2]
    have hsub : (t.rows.take (posR t.rows o.id) ++ t.rows.drop (posR t.rows o.id + 1)).Sublist t.rows := by
      conv => rhs; rw [← List.take_append_drop (posR t.rows o.id) t.rows]
      refine List.Sublist.append (List.Sublist.refl _) ?_
      rw [← List.drop_drop]
      exact List.drop_sublist _ _
    exact ok_iff.2 ⟨fun r hr => hh.1 r (hsub.subset hr), hh.2.1.sublist hsub, Nat.le_trans hsub.length_le hh.2.2.1, hh.2.2.2⟩
  rename_i hk2
  rw [if_neg hk2]
  rw [if_neg hk2] at hri
  have hk3 : o.kind = 3 := by
    refine Decidable.byContradiction fun h3 => ?_
    rw [if_neg h3, if_neg hk4] at hri; exact hri
  rw [if_pos hk3] at hri
  split at h
  · simp at h
  rename_i r hr
  split at h
  · simp at h
  rename_i hcd
  rw [if_neg hcd]
  have hids := mid_ids (r' := ⟨⟨r.task.id, o.c, r.task.d, r.task.t, r.task.m⟩, r.sv⟩) hr rfl
  have hrok := hh.1 r (List.mem_of_getElem? hr)
  refine ok_iff.2 ⟨fun q hq => ?_, ?_, ?_, hh.2.2.2⟩
  · simp only [List.mem_append, List.mem_singleton] at hq
    rcases hq with hq | rfl | hq
    · exact hh.1 q (List.mem_of_mem_take hq)
    · obtain ⟨h1, h2⟩ := hrok
      unfold GTask.ok at h1
      refine ⟨⟨h1.1, h1.2.1, ?_, ?_, h1.2.2.2.2.1, h1.2.2.2.2.2.1, h1.2.2.2.2.2.2⟩, h2⟩
      · show 0 < o.c; omega
      · show o.c ≤ r.task.d; omega
    · exact hh.1 q (List.mem_of_mem_drop hq)
  · have hpw := hh.2.1
    have h1 : (t.rows.map (·.task.id)).Pairwise (· < ·) := List.pairwise_map.2 hpw
    rw [← hids] at h1
    exact List.pairwise_map.1 h1
  · have := congrArg List.length hids
    simp only [List.length_map] at this
    rw [this]; exact hh.2.2.1
theorem GOp.kinds {o : GOp} (h : o.ok) : o.kind = 1 ∨ o.kind = 2 ∨ o.kind = 3 ∨ o.kind = 4 := by
  have := h.2
  unfold GOp.right at this
  split at this
  · left; assumption
  split at this
  · right; left; assumption
  split at this
  · right; right; left; assumption
  split at this
  · right; right; right; assumption
  · exact this.elim

/-! tables by ops -/
def nearI (x : Int) : Int := Int.tmod (bits .and .i64 x 1023) 17
def nearOp (o : GOp) : GOp :=
  if o.bare.kind = 1 then ⟨o.bare.kind, ⟨nearI o.bare.task.id, o.bare.task.c, o.bare.task.d, o.bare.task.t, o.bare.task.m⟩, o.bare.sv, 0, o.bare.c, o.bare.m⟩
  else if o.bare.kind = 4 then ⟨o.bare.kind, o.bare.task, o.bare.sv, 0, o.bare.c, o.bare.m⟩
  else ⟨o.bare.kind, o.bare.task, o.bare.sv, nearI o.bare.id, o.bare.c, o.bare.m⟩
noncomputable def stepT (t : GTable) (o : GOp) : GTable := if (applyT t (nearOp o)).2 = 0 then (applyT t (nearOp o)).1 else t
noncomputable def madeU (l : List GOp) (i : Int) : GTable := (l.take i.toNat).foldl stepT GTable.zero
noncomputable def madeT (l : List GOp) : GTable := madeU l 24
theorem madeU_succ {l : List GOp} {i : Int} {o : GOp} (h0 : 0 ≤ i) (hr : l[i.toNat]? = some o) : madeU l (i + 1) = stepT (madeU l i) o := by
  unfold madeU; rw [take_succI h0 hr, List.foldl_append]; rfl
theorem madeU_yes {l : List GOp} {i : Int} {o : GOp} (h0 : 0 ≤ i) (hr : l[i.toNat]? = some o) (h : (applyT (madeU l i) (nearOp o)).2 = 0) : (applyT (madeU l i) (nearOp o)).1 = madeU l (i + 1) := by
  rw [madeU_succ h0 hr, stepT, if_pos h]
theorem madeU_no {l : List GOp} {i : Int} {o : GOp} (h0 : 0 ≤ i) (hr : l[i.toNat]? = some o) (h : (applyT (madeU l i) (nearOp o)).2 ≠ 0) : madeU l i = madeU l (i + 1) := by
  rw [madeU_succ h0 hr, stepT, if_neg h]
theorem zero_ok : GTable.zero.ok := ⟨upTo_zero _, by simp [GTable.zero], by simp [GTable.zero], by simp [GTable.zero]⟩
theorem fold_ok : ∀ (l : List GOp) (t : GTable), t.ok → (l.foldl stepT t).ok
  | [], t, h => h
  | o :: l, t, h => fold_ok l _ (by
    unfold stepT; split
    · rename_i h'; exact (apply_ok h').1
    · exact h)
theorem madeU_ok (l : List GOp) (i : Int) : (madeU l i).ok := fold_ok _ _ zero_ok
theorem madeU_len (l : List GOp) (i : Int) : (madeU l i).rows.length ≤ 16 := (madeU_ok l i).2.1
theorem madeU_end {l : List GOp} {i : Int} (h0 : 0 ≤ i) (h2 : i ≤ 24) (h1 : ¬ (i < l.length ∧ i < 24)) : madeU l i = madeT l := by
  unfold madeT madeU
  by_cases h : i = 24
  · subst h; rfl
  · rw [List.take_of_length_le (by omega), List.take_of_length_le (by omega)]
theorem SlAt.take {α : Type} {cl : α → List Value} {m : Nat} {E : TypeId} {A : Option Addr} {xs : List α} {w : World} (h : SlAt cl m E A xs w) (n : Nat) : SlAt cl m E A (xs.take n) w := by
  by_cases hn : n ≤ xs.length
  · exact h.cutT (c := n) hn (Nat.le_refl _)
  · rw [List.take_of_length_le (by omega)]; exact h
theorem ekOp : EK opC 10 46 := EK.of (z := .agg #[.int .i64 0, .int .i64 0, .int .i64 0, .int .i64 0, .int .i64 0, .int .i64 0, .bool false, .int .i64 0, .int .i64 0, .int .i64 0]) (bt := 80) (fun _ => rfl) (fun _ => rfl) (by decide) (by kernel_rfl) rfl (by decide)

/-! a table's bytes -/
def GRow.enc (r : GRow) : List UInt8 := encNum r.task.id.toNat ++ encNum r.task.c.toNat ++ encNum r.task.d.toNat ++ encNum r.task.t.toNat ++ encNum r.task.m.toNat ++ encFlag r.sv
def encRows (rows : List GRow) : List UInt8 := rows.flatMap GRow.enc
def GTable.enc (t : GTable) : List UInt8 := encNum t.mode.toNat ++ encNum t.rows.length ++ encRows t.rows
def encU (rows : List GRow) (md : Int) (i : Int) : List UInt8 := encNum md.toNat ++ encNum rows.length ++ encRows (rows.take i.toNat)
theorem encU_succ {rows : List GRow} {md i : Int} {r : GRow} (h0 : 0 ≤ i) (hr : rows[i.toNat]? = some r) : encU rows md i ++ GRow.enc r = encU rows md (i + 1) := by
  unfold encU encRows; rw [take_succI h0 hr]; simp
theorem encU_end {rows : List GRow} {md i : Int} (h1 : (rows.length : Int) ≤ i) : encU rows md i = GTable.enc ⟨rows, md⟩ := by
  unfold encU GTable.enc; rw [List.take_of_length_le (by omega)]
noncomputable def bytesT (t : GTable) : List UInt8 := if tokB t = true then t.enc else []
noncomputable def bytesE (t : GTable) : Int := if tokB t = true then 0 else 1

theorem row_rng {t : GTable} {i : Nat} {r : GRow} (h : t.ok) (hr : t.rows[i]? = some r) : 0 ≤ r.task.id ∧ r.task.id ≤ 1023 ∧ 0 < r.task.c ∧ r.task.c ≤ r.task.d ∧ r.task.d ≤ r.task.t ∧ r.task.t ≤ 2147483648 ∧ 0 < r.task.m ∧ r.task.m ≤ 15 :=
  ((ok_iff.1 h).1 r (List.mem_of_getElem? hr)).1
theorem row_len (r : GRow) (h : 0 ≤ r.task.id ∧ r.task.id ≤ 1023 ∧ 0 < r.task.c ∧ r.task.c ≤ r.task.d ∧ r.task.d ≤ r.task.t ∧ r.task.t ≤ 2147483648 ∧ 0 < r.task.m ∧ r.task.m ≤ 15) :
    (encNum r.task.id.toNat).length ≤ 9 ∧ (encNum r.task.c.toNat).length ≤ 9 ∧ (encNum r.task.d.toNat).length ≤ 9 ∧ (encNum r.task.t.toNat).length ≤ 9 ∧ (encNum r.task.m.toNat).length ≤ 9 ∧ (encFlag r.sv).length ≤ 9 :=
  ⟨encNum_len _ (by omega), encNum_len _ (by omega), encNum_len _ (by omega), encNum_len _ (by omega), encNum_len _ (by omega), encFlag_len _⟩
theorem encRows_len : ∀ (rows : List GRow), (∀ r ∈ rows, r.ok) → (encRows rows).length ≤ 54 * rows.length
  | [], _ => by simp [encRows]
  | r :: rows, h => by
    have h1 := row_len r (h r (by simp)).1
    have h2 := encRows_len rows (fun q hq => h q (by simp [hq]))
    have h3 : encRows (r :: rows) = r.enc ++ encRows rows := by simp [encRows]
    rw [h3, List.length_append, List.length_cons]
    have h4 : r.enc.length ≤ 54 := by simp only [GRow.enc, List.length_append]; omega
    omega
theorem encU_len {rows : List GRow} {md : Int} (h : GTable.ok ⟨rows, md⟩) (i : Int) : (encU rows md i).length ≤ 900 := by
  obtain ⟨h1, h2, h3, h4, h5⟩ := ok_iff.1 h
  simp only at h1 h3 h4 h5
  have l1 := encRows_len (rows.take i.toNat) (fun r hr => h1 r (List.mem_of_mem_take hr))
  have l2 := encNum_len md.toNat (by omega)
  have l3 := encNum_len rows.length (by omega)
  have l4 : (rows.take i.toNat).length ≤ 16 := by simp; omega
  unfold encU
  simp only [List.length_append]
  omega
theorem encU_zero (rows : List GRow) (md : Int) : encNum md.toNat ++ encNum (rows.length : Int).toNat = encU rows md 0 := by simp [encU, encRows]
theorem encU_row {rows : List GRow} {md i : Int} {r : GRow} (h0 : 0 ≤ i) (hr : rows[i.toNat]? = some r) : encU rows md i ++ encNum r.task.id.toNat ++ encNum r.task.c.toNat ++ encNum r.task.d.toNat ++ encNum r.task.t.toNat ++ encNum r.task.m.toNat ++ encFlag r.sv = encU rows md (i + 1) := by
  rw [← encU_succ h0 hr]; simp [GRow.enc]
theorem tok_00 : tokB ⟨[], 0⟩ = true := tok_eqt zero_ok
theorem bytes_2 : bytesT ⟨[], 2⟩ = [1, 2, 0] ∧ bytesE ⟨[], 2⟩ = 0 := by
  have h : tokB ⟨[], 2⟩ = true := tok_eqt ⟨upTo_zero _, by simp, by simp, by simp⟩
  refine ⟨?_, by rw [bytesE, if_pos h]⟩
  rw [bytesT, if_pos h]
  simp [GTable.enc, encRows, encNum, beb_pos (show (2 : Nat) ≠ 0 by decide), beb_zero]

theorem applyT_zero {t : GTable} {o : GOp} (h : (applyT t o).2 ≠ 0) : (applyT t o).1 = GTable.zero := by
  unfold applyT admitT at h ⊢
  repeat' (first | rfl | split at h | (exact absurd rfl h))
  all_goals simp_all
theorem applyT_len (t : GTable) (o : GOp) : (applyT t o).1.rows.length ≤ 16 := by
  by_cases h : (applyT t o).2 = 0
  · exact (apply_ok h).1.2.1
  · rw [applyT_zero h]; simp [GTable.zero]
theorem madeT_len (l : List GOp) : (madeT l).rows.length ≤ 16 := madeU_len l 24
theorem madeT_ok (l : List GOp) : (madeT l).ok := madeU_ok l 24

theorem SlAt.off_new {α : Type} {cl : α → List Value} {m : Nat} {E : TypeId} {A : Option Addr} {xs : List α} {w : World} {b : Nat} (h : SlAt cl m E A xs w) (g : w.heap.size ≤ b) : xs ≠ [] → ∀ p, A = some p → ¬ p.block = b := fun hx p hp e => by
  have := h.lt hx p hp
  omega

/-! ops one by one, as bytes -/
noncomputable def replayT : GTable → List (List UInt8) → GTable × Nat
  | t, [] => (t, 0)
  | t, s :: ls => if opErr (opOf s) = 0 ∧ (applyT t (opVal (opOf s))).2 = 0 then ((replayT (applyT t (opVal (opOf s))).1 ls).1, (replayT (applyT t (opVal (opOf s))).1 ls).2 + 1) else (t, 0)
def repI (t0 t : GTable) (ls : List (List UInt8)) (i : Int) : Prop := replayT t0 ls = ((replayT t (ls.drop i.toNat)).1, (replayT t (ls.drop i.toNat)).2 + i.toNat)
theorem repI_zero (t : GTable) (ls : List (List UInt8)) : repI t t ls 0 := by simp [repI]
theorem drop_at {α : Type} {ls : List α} {i : Int} {s : α} (h0 : 0 ≤ i) (hr : ls[i.toNat]? = some s) : ls.drop i.toNat = s :: ls.drop (i + 1).toNat := by
  obtain ⟨hl, he⟩ := List.getElem?_eq_some_iff.1 hr
  rw [List.drop_eq_getElem_cons hl, he, show (i + 1).toNat = i.toNat + 1 by omega]
theorem repI_succ {t0 t : GTable} {ls : List (List UInt8)} {i : Int} {s : List UInt8} (h0 : 0 ≤ i) (h : repI t0 t ls i) (hr : ls[i.toNat]? = some s) (e : opErr (opOf s) = 0) (f : (applyT t (opVal (opOf s))).2 = 0) : repI t0 (applyT t (opVal (opOf s))).1 ls (i + 1) := by
  unfold repI at *
  rw [h, drop_at h0 hr, replayT, if_pos ⟨e, f⟩]
  simp only [Prod.mk.injEq, true_and]
  omega
theorem repI_stop {t0 t : GTable} {ls : List (List UInt8)} {i : Int} {s : List UInt8} (h0 : 0 ≤ i) (h : repI t0 t ls i) (hr : ls[i.toNat]? = some s) (e : ¬ (opErr (opOf s) = 0 ∧ (applyT t (opVal (opOf s))).2 = 0)) : replayT t0 ls = (t, i.toNat) := by
  unfold repI at h
  rw [h, drop_at h0 hr, replayT, if_neg e]; simp
theorem repI_end {t0 t : GTable} {ls : List (List UInt8)} {i : Int} (h : repI t0 t ls i) (h1 : (ls.length : Int) ≤ i) : replayT t0 ls = (t, i.toNat) := by
  unfold repI at h
  rw [h, List.drop_of_length_le (by omega), replayT]; simp
theorem replay_not {t : GTable} (h : tokB t = false) (ls : List (List UInt8)) : replayT t ls = (t, 0) := by
  cases ls with
  | nil => rfl
  | cons s ls =>
    rw [replayT, if_neg]
    intro hh
    have := hh.2
    unfold applyT at this
    rw [if_pos h] at this
    simp at this
def RepRes (r : GTable × Nat) (w : World) (e : Ending) (w' : World) : Prop :=
  ∃ A c, e = .returned (.tuple #[.agg #[.slice A r.1.rows.length c, .int .i64 r.1.mode], .int .i64 (r.2 : Int)]) ∧ SlAt rowC 6 53 A r.1.rows w' ∧ Adds w w'
theorem RepRes.mk {A : Option Addr} {c k : Nat} {t : GTable} {n : Int} {r : GTable × Nat} {w w' : World} {e : Ending} (h : r = (t, k)) (hk : (k : Int) = n) (he : e = .returned (.tuple #[.agg #[.slice A t.rows.length c, .int .i64 t.mode], .int .i64 n])) (ho : SlAt rowC 6 53 A t.rows w') (K : Adds w w') : RepRes r w e w' := by
  subst h; subst hk; exact ⟨A, c, he, ho, K⟩
theorem replay_len : ∀ (ls : List (List UInt8)) (t : GTable), t.rows.length ≤ 16 → (replayT t ls).1.rows.length ≤ 16
  | [], t, h => h
  | s :: ls, t, h => by
    rw [replayT]; split
    · exact replay_len ls _ (applyT_len _ _)
    · exact h

theorem replay_app : ∀ {txs : List (List UInt8)} {t0 ti : GTable} {s : List UInt8}, replayT t0 txs = (ti, txs.length) → opErr (opOf s) = 0 → (applyT ti (opVal (opOf s))).2 = 0 → replayT t0 (txs ++ [s]) = ((applyT ti (opVal (opOf s))).1, (txs ++ [s]).length)
  | [], t0, ti, s, h, e, f => by
    simp only [replayT, List.length_nil, Prod.mk.injEq, and_true] at h
    subst h
    simp [replayT, e, f]
  | x :: txs, t0, ti, s, h, e, f => by
    rw [replayT] at h
    split at h
    · rename_i hc
      simp only [Prod.mk.injEq, List.length_cons] at h
      have ih := replay_app (t0 := (applyT t0 (opVal (opOf x))).1) (txs := txs) (ti := ti) (s := s) (Prod.ext h.1 (by omega)) e f
      rw [List.cons_append, replayT, if_pos hc, ih]
      simp
    · simp at h
theorem opOf_enc {o : GOp} (h : o.ok) : opErr (opOf o.enc) = 0 ∧ opVal (opOf o.enc) = o := by
  rw [opOf_some h rfl]; exact ⟨rfl, rfl⟩
theorem replay_enc {txs : List (List UInt8)} {ti : GTable} {o : GOp} (h : replayT GTable.zero txs = (ti, txs.length)) (f : (applyT ti o).2 = 0) : replayT GTable.zero (txs ++ [o.enc]) = ((applyT ti o).1, (txs ++ [o.enc]).length) := by
  obtain ⟨h1, h2⟩ := opOf_enc (apply_ok f).2.2
  have := replay_app h h1 (by rw [h2]; exact f)
  rwa [h2] at this
theorem OwAt.offOw {α β : Type} {cl : α → List Value} {cl' : β → List Value} {m m' : Nat} {E E' : TypeId} {A A' : Option Addr} {cap cap' : Nat} {xs : List α} {ys : List β} {w : World} (h : OwAt cl m E A cap xs w) (h' : OwAt cl' m' E' A' cap' ys w) (hE : E ≠ E') : ∀ i, blk A = some i → ¬ blk A' = some i := fun i hi e => by
  rcases h.block with ⟨rfl, _⟩ | ⟨g, cur, rfl, hg, _⟩
  · simp [blk] at hi
  · simp only [blk, Option.map_some, Option.some.injEq] at hi
    subst hi
    exact h'.offT hg hE e

end Go.Proofs.Ytpkcohhfkeinmaa
