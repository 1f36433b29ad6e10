
/- Readers and writers, as the printed walks carry them. -/
import Derived.Test.YtdoenmokahbeaaaGreatDoorSx2
import Derived.Test.YtdoenmokahbeaaaGreatDoorWr2
import Derived.Test.YtdoenmokahbeaaaGreatDoorOctR3
import Derived.Test.YtdoenmokahbeaaaGreatDoorRef3d
namespace Go.Proofs.YtdoenmokahbeaaaGreatDoor
open Go.RowKit
set_option linter.unusedVariables false
set_option linter.unusedSimpArgs false

/-- What a reader's call leaves: a number up to a bound, and the rest. -/
theorem rdNum_u (most : Nat) (st : Option (List UInt8)) : ∃ (n : Nat) (s : Option (List UInt8)), rdNum most st = (n, s) ∧ stLen s ≤ stLen st ∧ n ≤ most := ⟨_, _, rfl, rdNum_len _ _, rdNum_le _ _⟩
theorem rdInt_u (most : Int) (h0 : 0 ≤ most) (st : Option (List UInt8)) : ∃ (n : Nat) (s : Option (List UInt8)), rdInt most st = (n, s) ∧ stLen s ≤ stLen st ∧ (n : Int) ≤ most :=
  ⟨(rdInt most st).1, (rdInt most st).2, rfl, rdInt_len _ _, by have := rdInt_le most st; omega⟩
theorem rdFlag_u (st : Option (List UInt8)) : ∃ (n : Bool) (s : Option (List UInt8)), rdFlag st = (n, s) ∧ stLen s ≤ stLen st := ⟨_, _, rfl, rdFlag_len _⟩
theorem rdText_u (most : Int) (st : Option (List UInt8)) : ∃ (n : List UInt8) (s : Option (List UInt8)), rdText most st = (n, s) ∧ stLen s ≤ stLen st ∧ n.length ≤ stLen st := ⟨_, _, rfl, rdText_len _ _, rdText_size _ _⟩

section
variable {w0 w w' : World} {b : Nat} {st : Option (List UInt8)}
end

theorem encFlag_len (f : Bool) : (encFlag f).length ≤ 9 := by
  unfold encFlag; split <;> exact encNum_len _ (by decide)
/-! writers -/
section
variable {T T' b c : Nat} {r r' r0 : Option Nat} {bs : List UInt8} {w w' w0 : World} {cs : Array Value} {fz : Nat × Nat}
theorem BuR.offT (h : BuR T 0 b r bs w) (hc : w.heap[c]? = some (.cells cs T' fz)) (hT : T' ≠ 5) : ¬ r = some c := by
  obtain ⟨p, v, _, _, hown, _, rfl⟩ := h
  intro e
  rcases hown.2 with ⟨rfl, _⟩ | ⟨g, cap, cur, fz', rfl, _, hg, _⟩
  · simp [Value.ownBlock] at e
  · have : g = c := by simpa [Value.ownBlock] using e
    subst this
    rw [hc] at hg
    simp only [Option.some.injEq, Obj.cells.injEq] at hg
    exact hT hg.2.1
theorem BuR.ltb (h : BuR T 0 b r bs w) : b < w.heap.size := h.at.lt
/-- how a buffer's block stands to the one at the start -/
abbrev WLink (w0 : World) (r0 r : Option Nat) : Prop := r = r0 ∨ ∃ k, r = some k ∧ w0.heap.size ≤ k
theorem WLink.step {S : Nat → Prop} (h : WLink w0 r0 r) (K : Keeps S w0 w) (n : r' = r ∨ ∃ k, r' = some k ∧ w.heap.size ≤ k) : WLink w0 r0 r' := by
  rcases n with rfl | ⟨k, rfl, hk⟩
  · exact h
  · exact .inr ⟨k, rfl, Nat.le_trans K.size hk⟩
theorem WLink.own (h : WLink w0 none r) (z : w0.heap.size ≤ b) (S : Nat → Prop) : ∀ i, i < w0.heap.size → (i = b ∨ r = some i) → S i := fun i hi e => by
  rcases e with rfl | e
  · omega
  · rcases h with rfl | ⟨k, rfl, hk⟩
    · cases e
    · cases e; omega
theorem WLink.par (h : WLink w0 r0 r) : ∀ i, i < w0.heap.size → (i = b ∨ r = some i) → (i = b ∨ r0 = some i) := fun i hi e => by
  rcases e with rfl | e
  · exact .inl rfl
  · rcases h with rfl | ⟨k, rfl, hk⟩
    · exact .inr e
    · cases e; omega
theorem BuR.newW (h : w.heap[b]? = some (.cells #[.pointer none, .slice none 0 0] T (0, 0))) : BuR T 0 b none [] w :=
  ⟨_, _, .inl rfl, h, World.ownsRowF_nil _ _ _ _, by simp [Value.ownBlock], rfl⟩
theorem BuR.movA (h : BuR T 0 b r bs w) (k : Adds w w') : BuR T 0 b r bs w' := h.keeps k id (fun _ _ x => x)
theorem BuR.mov1 (h : BuR T 0 b r bs w) (k : Keeps (fun i => i = c) w w') (hn : b ≠ c) (hr : ¬ r = some c) : BuR T 0 b r bs w' := h.keeps k hn (fun i hi e => hr (e ▸ hi))
end

end Go.Proofs.YtdoenmokahbeaaaGreatDoor
