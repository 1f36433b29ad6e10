
/- What a table's, and ops' cells are, where they come in. -/
import Derived.Test.YtpkcohhfkeinmaaSt1b
import Derived.Test.YtpkcohhfkeinmaaOpArgs
namespace Go.Proofs.Ytpkcohhfkeinmaa
open Go.RowKit
set_option linter.unusedVariables false

theorem isSlAt {α : Type} {cl : α → List Value} {m : Nat} {E : TypeId} {El : World → List Value → Prop} {w : World} (hel : ∀ es, El w es → ∃ x, es = cl x) (hl : ∀ x, (cl x).length = m) (hm : 0 < m) {A : Option Addr} {n c : Nat} (h : IsSl m El w [.slice A n c]) :
    ∃ xs : List α, n = xs.length ∧ SlAt cl m E A xs w ∧ xs.length ≤ c ∧ c ≤ maxLen := by
  rcases h with h | ⟨a, len, cap, h, hlc, hcm, hi⟩
  · simp only [List.cons.injEq, Value.slice.injEq, and_true] at h
    obtain ⟨rfl, rfl, rfl⟩ := h
    exact ⟨[], rfl, .inl rfl, Nat.le_refl _, Nat.zero_le _⟩
  · simp only [List.cons.injEq, Value.slice.injEq, and_true] at h
    obtain ⟨rfl, rfl, rfl⟩ := h
    by_cases h0 : n = 0
    · subst h0; exact ⟨[], rfl, .inl rfl, by simp, hcm⟩
    have hex : ∀ i : Fin n, ∃ x : α, ∀ j, j < m → w.cell? ((a.add (i.1 * m)).add j) = (cl x)[j]? := fun i => by
      obtain ⟨es, h1, h2, h3⟩ := hi i.1 i.2
      obtain ⟨x, rfl⟩ := hel es h3
      exact ⟨x, h2⟩
    obtain ⟨f, hex'⟩ := Classical.axiomOfChoice hex
    refine ⟨List.ofFn f, by simp, .inr ?_, by simpa using hlc, hcm⟩
    have hc0 := hex' ⟨0, by omega⟩ 0 hm
    have hs : ∃ v, (cl (f ⟨0, by omega⟩))[0]? = some v := ⟨_, List.getElem?_eq_getElem (by rw [hl]; exact hm)⟩
    obtain ⟨v, hv⟩ := hs
    rw [hv] at hc0
    simp only [Nat.zero_mul, addr_add0] at hc0
    obtain ⟨b, o, sp⟩ := a
    have hsp : sp = none := World.cell?_spot hc0
    subst hsp
    have hc : ∀ (i : Fin n) j, j < m → w.cell? ⟨b, o + i.1 * m + j, none⟩ = (cl (f i))[j]? := fun i j hj => by
      have := hex' i j hj
      rwa [addr_add, addr_add] at this
    unfold World.cell? at hc hc0
    cases hb : w.heap[b]? with
    | none => simp [hb] at hc0
    | some ob =>
      cases ob with
      | cells cs E' fz =>
        simp only [hb, Option.isSome_none, Bool.false_eq_true, if_false] at hc
        refine ⟨b, o, cs, E', fz, rfl, hb, ?_, fun i r hr => ?_⟩
        · rw [List.length_ofFn]
          have h1 := hc ⟨n - 1, by omega⟩ (m - 1) (by omega)
          have h2 : (cl (f ⟨n - 1, by omega⟩))[m - 1]? = some _ := List.getElem?_eq_getElem (by rw [hl]; omega)
          rw [h2] at h1
          have h3 := (Array.getElem?_eq_some_iff.1 h1).1
          have h4 : (n - 1) * m + m = n * m := by
            have : n = n - 1 + 1 := by omega
            conv => rhs; rw [this, Nat.add_mul, Nat.one_mul]
          simp only at h3
          omega
        · have hlt : i < n := by have := (List.getElem?_eq_some_iff.1 hr).1; simpa using this
          rw [List.getElem?_ofFn, dif_pos hlt] at hr
          cases hr
          refine List.ext_getElem? fun j => ?_
          by_cases hj : j < m
          · rw [List.getElem?_take_of_lt hj, List.getElem?_drop, ← hc ⟨i, hlt⟩ j hj]; simp
          · rw [List.getElem?_eq_none (by rw [List.length_take]; omega), List.getElem?_eq_none (by rw [hl]; omega)]
      | _ => simp [hb] at hc0
theorem isRow {w : World} {cs : List Value} (h : IsRow w cs) : ∃ r : GRow, cs = rowC r := by
  obtain ⟨c0, c1, rfl, ⟨t0, t1, t2, t3, t4, rfl, ⟨a, rfl, ha⟩, ⟨b, rfl, hb⟩, ⟨c, rfl, hc⟩, ⟨d, rfl, hd⟩, ⟨e, rfl, he⟩⟩, ⟨sv, rfl⟩⟩ := h
  exact ⟨⟨⟨a, b, c, d, e⟩, sv⟩, rfl⟩
theorem isOpL {w : World} {cs : List Value} (h : IsOp w cs) : ∃ o : GOp, cs = opC o := by
  obtain ⟨c0, c1, c2, c3, c4, c5, rfl, ⟨k, rfl, hk⟩, ⟨t0, t1, t2, t3, t4, rfl, ⟨a, rfl, ha⟩, ⟨b, rfl, hb⟩, ⟨c, rfl, hc⟩, ⟨d, rfl, hd⟩, ⟨e, rfl, he⟩⟩, ⟨sv, rfl⟩, ⟨i, rfl, hi⟩, ⟨cc, rfl, hcc⟩, ⟨m, rfl, hm⟩⟩ := h
  exact ⟨⟨k, ⟨a, b, c, d, e⟩, sv, i, cc, m⟩, rfl⟩
theorem isTable {w : World} {cs : Array Value} (h : IsTable w cs.toList) : ∃ (A : Option Addr) (cp : Nat) (rows : List GRow) (md : Int), Value.agg cs = .agg #[.slice A rows.length cp, .int .i64 md] ∧ SlAt rowC 6 53 A rows w ∧ rows.length ≤ cp := by
  obtain ⟨l⟩ := cs
  obtain ⟨c0, c1, h1, hs, ⟨md, rfl, _⟩⟩ := h
  have h1' : l = c0 ++ [.int .i64 md] := h1
  subst h1'
  have hv : ∃ A n c, c0 = [.slice A n c] := by
    rcases hs with rfl | ⟨a, len, cap, rfl, _⟩ <;> exact ⟨_, _, _, rfl⟩
  obtain ⟨A, n, c, rfl⟩ := hv
  obtain ⟨xs, rfl, h2, h3, _⟩ := isSlAt (cl := rowC) (E := 53) (fun es h => isRow h) (fun _ => rfl) (by decide) hs
  exact ⟨A, c, xs, md, rfl, h2, h3⟩
theorem isOps {w : World} {A : Option Addr} {n c : Nat} (h : IsSl 10 (fun w c => IsOp w c) w [.slice A n c]) : ∃ l : List GOp, n = l.length ∧ SlAt opC 10 46 A l w ∧ l.length ≤ 9223372036854775807 := by
  obtain ⟨xs, h1, h2, h3, h4⟩ := isSlAt (cl := opC) (E := 46) (fun es h => isOpL h) (fun _ => rfl) (by decide) h
  exact ⟨xs, h1, h2, by unfold maxLen at h4; omega⟩

end Go.Proofs.Ytpkcohhfkeinmaa
