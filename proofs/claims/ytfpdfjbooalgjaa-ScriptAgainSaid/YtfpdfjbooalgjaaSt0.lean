
/- Tables: rows, what may be, plainly. -/
import Derived.Test.YtfpdfjbooalgjaaSx6
import Derived.Test.YtfpdfjbooalgjaaSy0b
namespace Go.Proofs.Ytfpdfjbooalgjaa
open Go.RowKit
set_option linter.unusedVariables false
set_option linter.unusedSimpArgs false

structure GRow where
  task : GTask
  sv : Bool
deriving DecidableEq
structure GTable where
  rows : List GRow
  mode : Int
deriving DecidableEq
abbrev GRow.val (r : GRow) : Value := .agg #[.int .i64 r.task.id, .int .i64 r.task.c, .int .i64 r.task.d, .int .i64 r.task.t, .int .i64 r.task.m, .bool r.sv]
abbrev rowC (r : GRow) : List Value := [.int .i64 r.task.id, .int .i64 r.task.c, .int .i64 r.task.d, .int .i64 r.task.t, .int .i64 r.task.m, .bool r.sv]
abbrev taskC (t : GTask) : List Value := [.int .i64 t.id, .int .i64 t.c, .int .i64 t.d, .int .i64 t.t, .int .i64 t.m]
abbrev opC (o : GOp) : List Value := [.int .i64 o.kind, .int .i64 o.task.id, .int .i64 o.task.c, .int .i64 o.task.d, .int .i64 o.task.t, .int .i64 o.task.m, .bool o.sv, .int .i64 o.id, .int .i64 o.c, .int .i64 o.m]
abbrev strC (l : List UInt8) : List Value := [.string ⟨l.toArray⟩]

theorem EK.of {α : Type} {cl : α → List Value} {m : Nat} {E : TypeId} {z : Value} {bt : Nat} (len : ∀ x, (cl x).length = m) (one : ∀ x, (cl x).all Value.oneCell' = true) (pos : 0 < m) (h : (Try.prog.info? E).map (fun i => (i.zero, i.size, i.bytes)) = some (some z, m, bt)) (hz : z.cells.size = m) (hb : bt ≤ 512) : EK cl m E := by
  refine ⟨len, fun x u hu => List.all_eq_true.1 (one x) u hu, pos, ?_⟩
  obtain ⟨i, hi, hp⟩ := Option.map_eq_some_iff.1 h
  simp only [Prod.mk.injEq] at hp
  exact ⟨i, z, hi, hp.1, hp.2.1, hz, by omega⟩
theorem ekTask : EK taskC 5 27 := EK.of (z := .agg #[.int .i64 0, .int .i64 0, .int .i64 0, .int .i64 0, .int .i64 0]) (bt := 40) (fun _ => rfl) (fun _ => rfl) (by decide) (by kernel_rfl) rfl (by decide)
theorem ekStr : EK strC 1 9 := EK.of (z := .string ⟨#[]⟩) (bt := 16) (fun _ => rfl) (fun _ => rfl) (by decide) (by kernel_rfl) rfl (by decide)

def GRow.ok (r : GRow) : Prop := r.task.ok ∧ (r.sv = true → r.task.d = r.task.t)
/-- The first n rows may be. -/
def upTo (rows : List GRow) (n : Nat) : Prop := ∀ i r, i < n → rows[i]? = some r → r.ok ∧ ∀ j q, j + 1 = i → rows[j]? = some q → q.task.id < r.task.id
def GTable.ok (t : GTable) : Prop := upTo t.rows t.rows.length ∧ t.rows.length ≤ 16 ∧ 0 ≤ t.mode ∧ t.mode ≤ 3
noncomputable def tokB (t : GTable) : Bool := @decide t.ok (Classical.propDecidable _)
theorem tok_t {t : GTable} (h : tokB t = true) : t.ok := @of_decide_eq_true _ (Classical.propDecidable _) h
theorem tok_f {t : GTable} (h : tokB t = false) : ¬ t.ok := @of_decide_eq_false _ (Classical.propDecidable _) h
theorem tok_eqt {t : GTable} (h : t.ok) : tokB t = true := @decide_eq_true _ (Classical.propDecidable _) h
theorem tok_eqf {t : GTable} (h : ¬ t.ok) : tokB t = false := @decide_eq_false _ (Classical.propDecidable _) h
theorem upTo_zero (rows : List GRow) : upTo rows 0 := fun i r h => absurd h (by omega)
theorem upTo_succ {rows : List GRow} {i : Int} {r : GRow} (h0 : 0 ≤ i) (h : upTo rows i.toNat) (hr : rows[i.toNat]? = some r) (h1 : r.ok) (h2 : ∀ q, 0 < i → rows[(i - 1).toNat]? = some q → q.task.id < r.task.id) : upTo rows (i + 1).toNat := by
  intro j s hj hs
  by_cases e : j = i.toNat
  · subst e
    rw [hr] at hs; cases hs
    refine ⟨h1, fun k q hk hq => h2 q (by omega) ?_⟩
    rw [show (i - 1).toNat = k by omega]; exact hq
  · exact h j s (by omega) hs
theorem upTo_bad1 {t : GTable} {i : Int} {r : GRow} (hr : t.rows[i.toNat]? = some r) (h1 : ¬ r.ok) : false = tokB t := by
  refine (tok_eqf fun h => h1 ?_).symm
  exact (h.1 i.toNat r (List.getElem?_eq_some_iff.1 hr).1 hr).1
theorem upTo_bad2 {t : GTable} {i : Int} {r q : GRow} (hr : t.rows[i.toNat]? = some r) (h0 : 0 < i) (hq : t.rows[(i - 1).toNat]? = some q) (h1 : r.task.id ≤ q.task.id) : false = tokB t := by
  refine (tok_eqf fun h => ?_).symm
  have := (h.1 i.toNat r (List.getElem?_eq_some_iff.1 hr).1 hr).2 _ q (by omega) hq
  omega
theorem tok_end {rows : List GRow} {md i : Int} {b : Bool} (h0 : (rows.length : Int) ≤ i) (h : upTo rows i.toNat) (hb : b = true ↔ rows.length ≤ 16 ∧ 0 ≤ md ∧ md ≤ 3) : b = tokB ⟨rows, md⟩ := by
  have hu : upTo rows rows.length := fun j r hj hr => h j r (by omega) hr
  by_cases hok : GTable.ok ⟨rows, md⟩
  · rw [tok_eqt hok]; exact hb.2 hok.2
  · rw [tok_eqf hok]
    cases b with
    | false => rfl
    | true => exact absurd ⟨hu, hb.1 rfl⟩ hok

theorem eqTaskV (t u : GTask) (w : World) : (binOp .eql 27 t.val u.val).run Try.prog w = .ok (.bool (decide (t = u))) w := by
  obtain ⟨a, b, c, d, e⟩ := t
  obtain ⟨a', b', c', d', e'⟩ := u
  have hs : decide ((⟨a, b, c, d, e⟩ : GTask) = ⟨a', b', c', d', e'⟩) = decide (a = a' ∧ b = b' ∧ c = c' ∧ d = d' ∧ e = e') := by simp only [GTask.mk.injEq]
  rw [hs]; clear hs
  simp [go_sem]
  repeat' split
  all_goals simp_all
theorem neqTaskV (t u : GTask) (w : World) : (binOp .neq 27 t.val u.val).run Try.prog w = .ok (.bool (!(decide (t = u)))) w := by
  have h := eqTaskV t u w
  rw [run_eql_struct] at h
  rw [run_neq_struct]
  generalize (Op.equalIn 10000 27 _ _).run Try.prog w = r at h ⊢
  cases r with
  | ok v w' => simp only [Result.andThen_ok, Result.ok.injEq, Value.bool.injEq] at h ⊢; exact ⟨by rw [h.1], h.2⟩
  | halt x w' => simp [Result.andThen] at h
theorem eqTaskS (t : GTask) (w : World) : (binOp .eql 27 t.val t.val).run Try.prog w = .ok (.bool true) w := by rw [eqTaskV]; simp
theorem neqTaskS (t : GTask) (w : World) : (binOp .neq 27 t.val t.val).run Try.prog w = .ok (.bool false) w := by rw [neqTaskV]; simp
/-! lists, up to a place -/
section
variable {α β : Type} {xs ys : List α} {i : Int} {r q : α}
def eqU (xs ys : List α) (i : Int) : Prop := xs.take i.toNat = ys.take i.toNat
theorem eqU_zero (xs ys : List α) : eqU xs ys 0 := by simp [eqU]
theorem take_succI (h0 : 0 ≤ i) (hr : xs[i.toNat]? = some r) : xs.take (i + 1).toNat = xs.take i.toNat ++ [r] := by
  rw [show (i + 1).toNat = i.toNat + 1 by omega, List.take_add_one, hr]; rfl
theorem eqU_succ (h0 : 0 ≤ i) (h : eqU xs ys i) (hr : xs[i.toNat]? = some r) (hq : ys[i.toNat]? = some q) (e : r = q) : eqU xs ys (i + 1) := by
  unfold eqU at *; rw [take_succI h0 hr, take_succI h0 hq, h, e]
theorem eqU_bad [DecidableEq α] (hr : xs[i.toNat]? = some r) (hq : ys[i.toNat]? = some q) (e : r ≠ q) : false = decide (xs = ys) := by
  refine (decide_eq_false fun h => e ?_).symm
  rw [h, hq] at hr; exact (Option.some.inj hr).symm
theorem eqU_len [DecidableEq α] (h : (xs.length : Int) ≠ ys.length) : false = decide (xs = ys) := (decide_eq_false fun e => h (by rw [e])).symm
theorem eqU_end [DecidableEq α] (h1 : (xs.length : Int) ≤ i) (hl : (xs.length : Int) = ys.length) (h : eqU xs ys i) : true = decide (xs = ys) := by
  refine (decide_eq_true ?_).symm
  unfold eqU at h
  rwa [List.take_of_length_le (by omega), List.take_of_length_le (by omega)] at h
theorem map_takeI (f : α → β) (h0 : 0 ≤ i) (hr : xs[i.toNat]? = some r) : (xs.take i.toNat).map f ++ [f r] = (xs.take (i + 1).toNat).map f := by rw [take_succI h0 hr]; simp
theorem take_endI (h1 : (xs.length : Int) ≤ i) : xs.take i.toNat = xs := List.take_of_length_le (by omega)
end

theorem same_mode {xs ys : List GRow} {ma mb : Int} (h : ma ≠ mb) : false = decide ((⟨xs, ma⟩ : GTable) = ⟨ys, mb⟩) := (decide_eq_false fun e => h (by cases e; rfl)).symm
theorem same_rows {xs ys : List GRow} {ma mb : Int} (h : ma = mb) : decide (xs = ys) = decide ((⟨xs, ma⟩ : GTable) = ⟨ys, mb⟩) := by simp [h]
theorem same_len {xs ys : List GRow} {ma mb : Int} (h : (xs.length : Int) ≠ ys.length) : false = decide ((⟨xs, ma⟩ : GTable) = ⟨ys, mb⟩) := (decide_eq_false fun e => h (by cases e; rfl)).symm

/-! places -/
def cmpI (a b : Int) : Int := if a < b then -1 else if a > b then 1 else 0
theorem cmpI_lt {a b : Int} : cmpI a b < 0 ↔ a < b := by unfold cmpI; split <;> (try split) <;> omega
theorem cmpI_eq {a b : Int} : cmpI a b = 0 ↔ a = b := by unfold cmpI; split <;> (try split) <;> omega
def sortedR (rows : List GRow) : Prop := ∀ (i j : Nat) r q, i < j → rows[i]? = some r → rows[j]? = some q → r.task.id < q.task.id
theorem upTo_sorted {rows : List GRow} (h : upTo rows rows.length) : sortedR rows := by
  have key : ∀ (d i : Nat) r q, rows[i]? = some r → rows[i + d + 1]? = some q → r.task.id < q.task.id := by
    intro d
    induction d with
    | zero => intro i r q hr hq; exact (h _ q (List.getElem?_eq_some_iff.1 hq).1 hq).2 i r (by omega) hr
    | succ d ih =>
      intro i r q hr hq
      have hlt := (List.getElem?_eq_some_iff.1 hq).1
      have hs : rows[i + d + 1]? = some rows[i + d + 1] := List.getElem?_eq_getElem (by omega)
      have h1 := ih i r _ hr hs
      have h2 := (h _ q hlt hq).2 (i + d + 1) _ (by omega) hs
      omega
  intro i j r q hij hr hq
  exact key (j - i - 1) i r q hr (by rw [show i + (j - i - 1) + 1 = j by omega]; exact hq)
def posR (rows : List GRow) (x : Int) : Nat := (rows.takeWhile fun r => decide (r.task.id < x)).length
def hasR (rows : List GRow) (x : Int) : Bool := match rows[posR rows x]? with
  | some r => r.task.id == x
  | none => false
theorem pos_unique : ∀ {rows : List GRow} {x : Int} {i : Nat}, i ≤ rows.length → (∀ (k : Nat) r, k < i → rows[k]? = some r → r.task.id < x) → (∀ r, rows[i]? = some r → x ≤ r.task.id) → posR rows x = i
  | [], x, i, hi, _, _ => by simp at hi; simp [posR, hi]
  | r :: rows, x, 0, _, _, hu => by
    have := hu r rfl
    simp [posR, List.takeWhile_cons, show ¬ r.task.id < x by omega]
  | r :: rows, x, i + 1, hi, hl, hu => by
    have h0 := hl 0 r (by omega) rfl
    have ih := pos_unique (rows := rows) (x := x) (i := i) (by simpa using hi) (fun k s hk hs => hl (k + 1) s (by omega) (by simpa using hs)) (fun s hs => hu s (by simpa using hs))
    unfold posR at ih ⊢
    simp [List.takeWhile_cons, h0, ih]
theorem pos_le (rows : List GRow) (x : Int) : posR rows x ≤ rows.length := List.Sublist.length_le (List.takeWhile_sublist _)
def lowR (rows : List GRow) (x i : Int) : Prop := ∀ (k : Nat) r, (k : Int) < i → rows[k]? = some r → r.task.id < x
def highR (rows : List GRow) (x j : Int) : Prop := ∀ (k : Nat) r, j ≤ (k : Int) → rows[k]? = some r → x ≤ r.task.id
theorem low_step {rows : List GRow} {x h : Int} {r : GRow} (hs : sortedR rows) (h0 : 0 ≤ h) (hr : rows[h.toNat]? = some r) (hc : r.task.id < x) : lowR rows x (h + 1) := fun k q hk hq => by
  by_cases e : k = h.toNat
  · subst e; rw [hr] at hq; cases hq; exact hc
  · have := hs k h.toNat q r (by omega) hq hr; omega
theorem high_step {rows : List GRow} {x h : Int} {r : GRow} (hs : sortedR rows) (h0 : 0 ≤ h) (hr : rows[h.toNat]? = some r) (hc : ¬ r.task.id < x) : highR rows x h := fun k q hk hq => by
  by_cases e : k = h.toNat
  · subst e; rw [hr] at hq; cases hq; omega
  · have := hs h.toNat k r q (by omega) hr hq; omega
theorem pos_of {rows : List GRow} {x i : Int} (h0 : 0 ≤ i) (h1 : i ≤ rows.length) (hl : lowR rows x i) (hu : highR rows x i) : (posR rows x : Int) = i := by
  have := pos_unique (rows := rows) (x := x) (i := i.toNat) (by omega) (fun k r hk hr => hl k r (by omega) hr) (fun r hr => hu _ r (by omega) hr)
  omega
theorem has_some {rows : List GRow} {x i : Int} {r : GRow} (hp : (posR rows x : Int) = i) (hr : rows[i.toNat]? = some r) : (cmpI r.task.id x == 0) = hasR rows x := by
  unfold hasR
  rw [show posR rows x = i.toNat by omega, hr, Bool.eq_iff_iff]
  simp [cmpI_eq]
theorem has_none {rows : List GRow} {x i : Int} (hp : (posR rows x : Int) = i) (h1 : (rows.length : Int) ≤ i) : false = hasR rows x := by
  unfold hasR
  rw [List.getElem?_eq_none (by omega)]
/-- the first of a number -/
def idxR (rows : List GRow) (x : Int) : Int := match rows.findIdx? (fun r => r.task.id == x) with
  | some i => (i : Int)
  | none => -1
def noneR (rows : List GRow) (x i : Int) : Prop := ∀ (k : Nat) r, (k : Int) < i → rows[k]? = some r → r.task.id ≠ x
theorem none_zero (rows : List GRow) (x : Int) : noneR rows x 0 := fun k r h => by omega
theorem none_succ {rows : List GRow} {x i : Int} {r : GRow} (h0 : 0 ≤ i) (h : noneR rows x i) (hr : rows[i.toNat]? = some r) (hn : r.task.id ≠ x) : noneR rows x (i + 1) := fun k q hk hq => by
  by_cases e : k = i.toNat
  · subst e; rw [hr] at hq; cases hq; exact hn
  · exact h k q (by omega) hq
theorem idx_at {rows : List GRow} {x i : Int} {r : GRow} (h0 : 0 ≤ i) (h : noneR rows x i) (hr : rows[i.toNat]? = some r) (he : r.task.id = x) : i = idxR rows x := by
  have : rows.findIdx? (fun r => r.task.id == x) = some i.toNat := by
    rw [List.findIdx?_eq_some_iff_getElem]
    obtain ⟨hlt, hg⟩ := List.getElem?_eq_some_iff.1 hr
    refine ⟨hlt, by simp [hg, he], fun j hj => ?_⟩
    have := h j rows[j] (by omega) (List.getElem?_eq_getElem (by omega))
    simpa using this
  unfold idxR
  rw [this]
  simp; omega
theorem idx_no {rows : List GRow} {x i : Int} (h1 : (rows.length : Int) ≤ i) (h : noneR rows x i) : -1 = idxR rows x := by
  have : rows.findIdx? (fun r => r.task.id == x) = none := by
    rw [List.findIdx?_eq_none_iff]
    intro r hr
    obtain ⟨k, hk, hg⟩ := List.getElem_of_mem hr
    have := h k r (by omega) (by rw [List.getElem?_eq_getElem hk, hg])
    simpa using this
  unfold idxR; rw [this]
def GRow.zero : GRow := ⟨⟨0, 0, 0, 0, 0⟩, false⟩
def findR (rows : List GRow) (x : Int) : Option GRow := rows.find? (fun r => r.task.id == x)
def findV (rows : List GRow) (x : Int) : GRow := (findR rows x).getD GRow.zero
theorem idx_neg {rows : List GRow} {x : Int} (h : idxR rows x < 0) : findR rows x = none := by
  unfold idxR at h
  split at h
  · omega
  · rename_i hh
    rw [List.findIdx?_eq_none_iff] at hh
    unfold findR
    rw [List.find?_eq_none]
    intro r hr; simp [hh r hr]
theorem idx_rng (rows : List GRow) (x : Int) : -1 ≤ idxR rows x ∧ idxR rows x < rows.length ∨ idxR rows x = -1 := by
  unfold idxR
  split
  · rename_i i hi
    rw [List.findIdx?_eq_some_iff_getElem] at hi
    obtain ⟨h, _⟩ := hi
    left; omega
  · right; rfl
theorem idx_get {rows : List GRow} {x : Int} {r : GRow} (h : ¬ idxR rows x < 0) (hr : rows[(idxR rows x).toNat]? = some r) : findR rows x = some r := by
  unfold idxR at h hr
  split at hr
  · rename_i i hi
    rw [List.findIdx?_eq_some_iff_getElem] at hi
    obtain ⟨hlt, he, hlo⟩ := hi
    simp only [Int.toNat_natCast] at hr
    obtain ⟨_, hg⟩ := List.getElem?_eq_some_iff.1 hr
    unfold findR
    rw [List.find?_eq_some_iff_getElem]
    exact ⟨by rw [← hg]; exact he, i, hlt, hg, fun j hj => by simpa using hlo j hj⟩
  · rename_i hi; simp [hi] at h

end Go.Proofs.Ytfpdfjbooalgjaa
