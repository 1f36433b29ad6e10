
/- What a slice's cells are, where it comes in. -/
import Derived.Test.YtdoenmokahbeaaaGreatDoorSx7
import Derived.Test.YtdoenmokahbeaaaGreatDoorArgs0
namespace Go.Proofs.YtdoenmokahbeaaaGreatDoor
open Go.RowKit
set_option linter.unusedVariables false

theorem isSlAtP {α : Type} {P : α → Prop} {cl : α → List Value} {m : Nat} {E : TypeId} {El : World → List Value → Prop} {w : World} (hel : ∀ es, El w es → ∃ x, es = cl x ∧ P x) (hl : ∀ x, (cl x).length = m) (hm : 0 < m) {A : Option Addr} {n c : Nat} (h : IsSl m El w [.slice A n c]) :
    ∃ xs : List α, n = xs.length ∧ SlAt cl m E A xs w ∧ xs.length ≤ c ∧ c ≤ maxLen ∧ ∀ x ∈ xs, P x := by
  rcases h with h | ⟨a, len, cap, h, hlc, hcm, hi⟩
  · simp only [List.cons.injEq, Value.slice.injEq, and_true] at h
    obtain ⟨rfl, rfl, rfl⟩ := h
    exact ⟨[], rfl, .inl rfl, Nat.le_refl _, Nat.zero_le _, by simp⟩
  · simp only [List.cons.injEq, Value.slice.injEq, and_true] at h
    obtain ⟨rfl, rfl, rfl⟩ := h
    by_cases h0 : n = 0
    · subst h0; exact ⟨[], rfl, .inl rfl, by simp, hcm, by simp⟩
    have hex : ∀ i : Fin n, ∃ x : α, (∀ j, j < m → w.cell? ((a.add (i.1 * m)).add j) = (cl x)[j]?) ∧ P x := fun i => by
      obtain ⟨es, h1, h2, h3⟩ := hi i.1 i.2
      obtain ⟨x, rfl, hp⟩ := hel es h3
      exact ⟨x, h2, hp⟩
    obtain ⟨f, hex2⟩ := Classical.axiomOfChoice hex
    have hex' := fun i => (hex2 i).1
    refine ⟨List.ofFn f, by simp, .inr ?_, by simpa using hlc, hcm, fun x hx => by obtain ⟨i, rfl⟩ := List.mem_ofFn.1 hx; exact (hex2 i).2⟩
    have hc0 := hex' ⟨0, by omega⟩ 0 hm
    have hs : ∃ v, (cl (f ⟨0, by omega⟩))[0]? = some v := ⟨_, List.getElem?_eq_getElem (by rw [hl]; exact hm)⟩
    obtain ⟨v, hv⟩ := hs
    rw [hv] at hc0
    simp only [Nat.zero_mul, addr_add0] at hc0
    obtain ⟨b, o, sp⟩ := a
    have hsp : sp = none := World.cell?_spot hc0
    subst hsp
    have hc : ∀ (i : Fin n) j, j < m → w.cell? ⟨b, o + i.1 * m + j, none⟩ = (cl (f i))[j]? := fun i j hj => by
      have := hex' i j hj
      rwa [addr_add, addr_add] at this
    unfold World.cell? at hc hc0
    cases hb : w.heap[b]? with
    | none => simp [hb] at hc0
    | some ob =>
      cases ob with
      | cells cs E' fz =>
        simp only [hb, Option.isSome_none, Bool.false_eq_true, if_false] at hc
        refine ⟨b, o, cs, E', fz, rfl, hb, ?_, fun i r hr => ?_⟩
        · rw [List.length_ofFn]
          have h1 := hc ⟨n - 1, by omega⟩ (m - 1) (by omega)
          have h2 : (cl (f ⟨n - 1, by omega⟩))[m - 1]? = some _ := List.getElem?_eq_getElem (by rw [hl]; omega)
          rw [h2] at h1
          have h3 := (Array.getElem?_eq_some_iff.1 h1).1
          have h4 : (n - 1) * m + m = n * m := by
            have : n = n - 1 + 1 := by omega
            conv => rhs; rw [this, Nat.add_mul, Nat.one_mul]
          simp only at h3
          omega
        · have hlt : i < n := by have := (List.getElem?_eq_some_iff.1 hr).1; simpa using this
          rw [List.getElem?_ofFn, dif_pos hlt] at hr
          cases hr
          refine List.ext_getElem? fun j => ?_
          by_cases hj : j < m
          · rw [List.getElem?_take_of_lt hj, List.getElem?_drop, ← hc ⟨i, hlt⟩ j hj]; simp
          · rw [List.getElem?_eq_none (by rw [List.length_take]; omega), List.getElem?_eq_none (by rw [hl]; omega)]
      | _ => simp [hb] at hc0
theorem isSlAt {α : Type} {cl : α → List Value} {m : Nat} {E : TypeId} {El : World → List Value → Prop} {w : World} (hel : ∀ es, El w es → ∃ x, es = cl x) (hl : ∀ x, (cl x).length = m) (hm : 0 < m) {A : Option Addr} {n c : Nat} (h : IsSl m El w [.slice A n c]) :
    ∃ xs : List α, n = xs.length ∧ SlAt cl m E A xs w ∧ xs.length ≤ c ∧ c ≤ maxLen := by
  obtain ⟨xs, h1, h2, h3, h4, _⟩ := isSlAtP (P := fun _ => True) (E := E) (fun es he => by obtain ⟨x, hx⟩ := hel es he; exact ⟨x, hx, trivial⟩) hl hm h
  exact ⟨xs, h1, h2, h3, h4⟩

end Go.Proofs.YtdoenmokahbeaaaGreatDoor
