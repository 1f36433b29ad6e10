
/- Records of two epochs on one disk, plainly. -/
import Derived.Test.YtdoenmokahbeaaaDoorWlB
namespace Go.Proofs.YtdoenmokahbeaaaDoor
open Go.RowKit
set_option linter.unusedVariables false
set_option linter.unusedSimpArgs false

def zsec : List UInt8 := List.replicate 64 0
/-- xs of epoch 5, ys of epoch 6 over them. -/
def lay (sc xs ys : List (List UInt8)) : Prop := sc.length = 8 ∧ xs.length ≤ 8 ∧ ys.length ≤ 8 ∧ (∀ s ∈ xs, s.length ≤ 43) ∧ (∀ s ∈ ys, s.length ≤ 43) ∧
  ∀ j, j < 8 → sc[j]? = some (if j < ys.length then makeS (ys.getD j []) 6 j else if j < xs.length then makeS (xs.getD j []) 5 j else zsec)
theorem lay_zero : lay (List.replicate 8 (List.replicate 64 (0 : UInt8))) [] [] := by
  refine ⟨by simp, by simp, by simp, by simp, by simp, fun j hj => ?_⟩
  rw [List.getElem?_replicate, if_pos hj]; simp [zsec]
theorem getD_snoc (l : List (List UInt8)) (r : List UInt8) (j : Nat) : (l ++ [r]).getD j [] = if j < l.length then l.getD j [] else if j = l.length then r else [] := by
  simp only [List.getD_eq_getElem?_getD]
  by_cases h : j < l.length
  · rw [if_pos h, List.getElem?_append_left h]
  · rw [if_neg h, List.getElem?_append_right (by omega)]
    by_cases h2 : j = l.length
    · rw [if_pos h2, h2]; simp
    · rw [if_neg h2, List.getElem?_eq_none (by simp; omega)]; rfl
theorem lay_x {sc xs : List (List UInt8)} {r : List UInt8} (h : lay sc xs []) (hr : r.length ≤ 43) (hl : xs.length < 8) : lay (sc.set xs.length (makeS r 5 xs.length)) (xs ++ [r]) [] := by
  obtain ⟨h1, h2, h3, h4, h5, h6⟩ := h
  refine ⟨by simpa using h1, by simp; omega, h3, fun s hs => ?_, h5, fun j hj => ?_⟩
  · rcases List.mem_append.1 hs with hs | hs
    · exact h4 s hs
    · rw [List.mem_singleton] at hs; rw [hs]; exact hr
  · rw [List.getElem?_set, getD_snoc]
    by_cases e : xs.length = j
    · subst e
      rw [if_pos rfl, if_pos (by omega)]; simp
    · rw [if_neg e, h6 j hj]
      simp only [List.length_nil, Nat.not_lt_zero, if_false, List.length_append, List.length_singleton]
      by_cases e2 : j < xs.length
      · rw [if_pos e2, if_pos (by omega), if_pos e2]
      · rw [if_neg e2, if_neg (by omega)]
theorem lay_y {sc xs ys : List (List UInt8)} {r : List UInt8} (h : lay sc xs ys) (hr : r.length ≤ 43) (hl : ys.length < 8) : lay (sc.set ys.length (makeS r 6 ys.length)) xs (ys ++ [r]) := by
  obtain ⟨h1, h2, h3, h4, h5, h6⟩ := h
  refine ⟨by simpa using h1, h2, by simp; omega, h4, fun s hs => ?_, fun j hj => ?_⟩
  · rcases List.mem_append.1 hs with hs | hs
    · exact h5 s hs
    · rw [List.mem_singleton] at hs; rw [hs]; exact hr
  · rw [List.getElem?_set, getD_snoc]
    by_cases e : ys.length = j
    · subst e
      rw [if_pos rfl, if_pos (by omega)]; simp
    · rw [if_neg e, h6 j hj]
      simp only [List.length_append, List.length_singleton]
      by_cases e2 : j < ys.length
      · rw [if_pos e2, if_pos (by omega), if_pos e2]
      · rw [if_neg e2, if_neg (show ¬ j < ys.length + 1 by omega)]
theorem lay_s6 {sc xs ys : List (List UInt8)} {rd : Int} (h : lay sc xs ys) : ∃ r, scanGo 0 6 (8 : Int).toNat (⟨sc, [], 0, rd⟩ : GDisk) [] = (ys, 0, ⟨sc, [], 0, r⟩) := by
  obtain ⟨h1, h2, h3, h4, h5, h6⟩ := h
  refine scan_good0 (at_ := 0) (e := 6) (n := 8) (xs := ys) (by decide) (by decide) (by decide) (by decide) (by omega) ⟨rfl, rfl⟩ (by simp only; omega) (fun i x hx => ?_) ?_
  · have hi : i < ys.length := (List.getElem?_eq_some_iff.1 hx).1
    refine ⟨?_, h5 x (List.mem_of_getElem? hx)⟩
    show sc[0 + i]? = _
    rw [Nat.zero_add, h6 i (by omega), if_pos hi, List.getD_eq_getElem?_getD, hx]; rfl
  · by_cases e : ys.length = 8
    · left; omega
    · right
      show ¬ recS (sc.getD (0 + ys.length) []) 6 ys.length
      rw [Nat.zero_add, List.getD_eq_getElem?_getD, h6 _ (by omega), if_neg (Nat.lt_irrefl _)]
      split
      · next k =>
        simp only [Option.getD_some]
        rw [recS_mk (h4 _ (by rw [List.getD_eq_getElem?_getD, List.getElem?_eq_getElem k]; exact List.getElem_mem _)) (by decide) (by omega)]
        omega
      · exact recS_zero (by decide)
theorem lay_s5 {sc xs ys : List (List UInt8)} {rd : Int} (h : lay sc xs ys) : ∃ r, scanGo 0 5 (8 : Int).toNat (⟨sc, [], 0, rd⟩ : GDisk) [] = (if ys.length = 0 then xs else [], 0, ⟨sc, [], 0, r⟩) := by
  obtain ⟨h1, h2, h3, h4, h5, h6⟩ := h
  by_cases hy : ys.length = 0
  · rw [if_pos hy]
    refine scan_good0 (at_ := 0) (e := 5) (n := 8) (xs := xs) (by decide) (by decide) (by decide) (by decide) (by omega) ⟨rfl, rfl⟩ (by simp only; omega) (fun i x hx => ?_) ?_
    · have hi : i < xs.length := (List.getElem?_eq_some_iff.1 hx).1
      refine ⟨?_, h4 x (List.mem_of_getElem? hx)⟩
      show sc[0 + i]? = _
      rw [Nat.zero_add, h6 i (by omega), if_neg (by omega), if_pos hi, List.getD_eq_getElem?_getD, hx]; rfl
    · by_cases e : xs.length = 8
      · left; omega
      · right
        show ¬ recS (sc.getD (0 + xs.length) []) 5 xs.length
        rw [Nat.zero_add, List.getD_eq_getElem?_getD, h6 _ (by omega), if_neg (by omega), if_neg (Nat.lt_irrefl _)]
        exact recS_zero (by decide)
  · rw [if_neg hy]
    refine scan_good0 (at_ := 0) (e := 5) (n := 8) (xs := []) (by decide) (by decide) (by decide) (by decide) (by simp) ⟨rfl, rfl⟩ (by simp only; omega) (fun i x hx => by simp at hx) (.inr ?_)
    show ¬ recS (sc.getD (0 + 0) []) 5 0
    rw [Nat.zero_add, List.getD_eq_getElem?_getD, h6 0 (by omega), if_pos (by omega)]
    simp only [Option.getD_some]
    rw [recS_mk (h5 _ (by rw [List.getD_eq_getElem?_getD, List.getElem?_eq_getElem (by omega)]; exact List.getElem_mem _)) (by decide) (by decide)]
    omega

end Go.Proofs.YtdoenmokahbeaaaDoor
