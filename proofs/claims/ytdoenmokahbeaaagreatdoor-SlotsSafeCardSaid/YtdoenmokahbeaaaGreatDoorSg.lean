
/- Slices, generally: kinds of elements; lists, up to a place. -/
import Derived.Test.YtdoenmokahbeaaaGreatDoorSx7
namespace Go.Proofs.YtdoenmokahbeaaaGreatDoor
open Go.RowKit
set_option linter.unusedVariables false
set_option linter.unusedSimpArgs false

abbrev strC (l : List UInt8) : List Value := [.string ⟨l.toArray⟩]
theorem EK.of {α : Type} {cl : α → List Value} {m : Nat} {E : TypeId} {z : Value} {bt : Nat} (len : ∀ x, (cl x).length = m) (one : ∀ x, (cl x).all Value.oneCell' = true) (pos : 0 < m) (h : (Tryz.prog.info? E).map (fun i => (i.zero, i.size, i.bytes)) = some (some z, m, bt)) (hz : z.cells.size = m) (hb : bt ≤ 512) : EK cl m E := by
  refine ⟨len, fun x u hu => List.all_eq_true.1 (one x) u hu, pos, ?_⟩
  obtain ⟨i, hi, hp⟩ := Option.map_eq_some_iff.1 h
  simp only [Prod.mk.injEq] at hp
  exact ⟨i, z, hi, hp.1, hp.2.1, hz, by omega⟩
theorem ekStr : EK strC 1 9 := EK.of (z := .string ⟨#[]⟩) (bt := 16) (fun _ => rfl) (fun _ => rfl) (by decide) (by kernel_rfl) rfl (by decide)

/-! lists, up to a place -/
section
variable {α β : Type} {xs ys : List α} {i : Int} {r q : α}
def eqU (xs ys : List α) (i : Int) : Prop := xs.take i.toNat = ys.take i.toNat
theorem eqU_zero (xs ys : List α) : eqU xs ys 0 := by simp [eqU]
theorem take_succI (h0 : 0 ≤ i) (hr : xs[i.toNat]? = some r) : xs.take (i + 1).toNat = xs.take i.toNat ++ [r] := by
  rw [show (i + 1).toNat = i.toNat + 1 by omega, List.take_add_one, hr]; rfl
theorem eqU_succ (h0 : 0 ≤ i) (h : eqU xs ys i) (hr : xs[i.toNat]? = some r) (hq : ys[i.toNat]? = some q) (e : r = q) : eqU xs ys (i + 1) := by
  unfold eqU at *; rw [take_succI h0 hr, take_succI h0 hq, h, e]
theorem eqU_bad [DecidableEq α] (hr : xs[i.toNat]? = some r) (hq : ys[i.toNat]? = some q) (e : r ≠ q) : false = decide (xs = ys) := by
  refine (decide_eq_false fun h => e ?_).symm
  rw [h, hq] at hr; exact (Option.some.inj hr).symm
theorem eqU_len [DecidableEq α] (h : (xs.length : Int) ≠ ys.length) : false = decide (xs = ys) := (decide_eq_false fun e => h (by rw [e])).symm
theorem eqU_end [DecidableEq α] (h1 : (xs.length : Int) ≤ i) (hl : (xs.length : Int) = ys.length) (h : eqU xs ys i) : true = decide (xs = ys) := by
  refine (decide_eq_true ?_).symm
  unfold eqU at h
  rwa [List.take_of_length_le (by omega), List.take_of_length_le (by omega)] at h
theorem map_takeI (f : α → β) (h0 : 0 ≤ i) (hr : xs[i.toNat]? = some r) : (xs.take i.toNat).map f ++ [f r] = (xs.take (i + 1).toNat).map f := by rw [take_succI h0 hr]; simp
theorem take_endI (h1 : (xs.length : Int) ≤ i) : xs.take i.toNat = xs := List.take_of_length_le (by omega)
end

end Go.Proofs.YtdoenmokahbeaaaGreatDoor
