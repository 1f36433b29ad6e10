
/- What tries are, where they come in. -/
import Derived.Test.YtdoenmokahbeaaaGreatDoorCk1
import Derived.Test.YtdoenmokahbeaaaGreatDoorSlArgs
import Derived.Test.YtdoenmokahbeaaaGreatDoorArgs0
namespace Go.Proofs.YtdoenmokahbeaaaGreatDoor
open Go.RowKit
set_option linter.unusedVariables false

theorem isSlOf {m : Nat} {El : World → List Value → Prop} {w : World} {cs : List Value} (h : IsSl m El w cs) : ∃ A n c, cs = [.slice A n c] := by
  rcases h with h | ⟨a, len, cap, h, _⟩
  · exact ⟨none, 0, 0, h⟩
  · exact ⟨some a, len, cap, h⟩
theorem isTryEl {w : World} {es : List Value} (h : IsTry w es) : ∃ y : GTry, es = tryC y ∧ (y.t.length ≤ 9223372036854775807 ∧ SlAt ftC 2 86 y.A y.fs w ∧ y.fs.length ≤ 9223372036854775807) := by
  obtain ⟨c0, c1, c2, rfl, ⟨s, rfl, hs⟩, ⟨f, rfl, hf⟩, h2⟩ := h
  obtain ⟨t, rfl, ht⟩ := isStr ⟨s, rfl, hs⟩
  obtain ⟨A, n, c, rfl⟩ := isSlOf h2
  obtain ⟨fs, rfl, g2, g3, g4, _⟩ := isSlAtP (cl := ftC) (E := 86) (P := fun _ : Int × Int => True) (fun es h => by
    obtain ⟨a0, a1, rfl, ⟨x, rfl, _⟩, ⟨y, rfl, _⟩⟩ := h
    exact ⟨(x, y), rfl, trivial⟩) (fun _ => rfl) (by decide) h2
  exact ⟨⟨t, f, A, c, fs⟩, rfl, ht, g2, by show fs.length ≤ 9223372036854775807; unfold maxLen at g4; omega⟩
theorem isTries {E : TypeId} {w : World} {A : Option Addr} {n c : Nat} (h : IsSl 3 (fun w c => IsTry w c) w [.slice A n c]) : ∃ tr : List GTry, n = tr.length ∧ SlAt tryC 3 E A tr w ∧ TriesOk tr w ∧ tr.length ≤ 9223372036854775807 := by
  obtain ⟨xs, h1, h2, h3, h4, h5⟩ := isSlAtP (cl := tryC) (E := E) (fun es h => isTryEl h) (fun _ => rfl) (by decide) h
  exact ⟨xs, h1, h2, h5, by unfold maxLen at h4; omega⟩

end Go.Proofs.YtdoenmokahbeaaaGreatDoor
