/- Wk08t. -/
import Derived.Test.YtnndkgmcjbnfbaaGreatDoorPk6
import Derived.Test.YtnndkgmcjbnfbaaGreatDoorPkJl3
namespace Go.Proofs.YtnndkgmcjbnfbaaGreatDoor
open Go.RowKit
set_option linter.unusedVariables false
theorem isSlOf8 {m : Nat} {El : World → List Value → Prop} {w : World} {cs : List Value} (h : IsSl m El w cs) : ∃ A n c, cs = [.slice A n c] := by
  rcases h with h | ⟨a, len, cap, h, _⟩
  · exact ⟨none, 0, 0, h⟩
  · exact ⟨some a, len, cap, h⟩
theorem isTryEl8 {w : World} {es : List Value} (h : IsTry w es) : ∃ y : GTry8, es = tryC8 y ∧ (y.t.length ≤ 9223372036854775807 ∧ SlAt ftC 2 76 y.A y.fs w ∧ y.fs.length ≤ 9223372036854775807) := by
  obtain ⟨c0, c1, c2, c3, c4, c5, rfl, ⟨b0, rfl⟩, ⟨b1, rfl⟩, ⟨b2, rfl⟩, ⟨s, rfl, hs⟩, ⟨f, rfl, hf⟩, h2⟩ := h
  obtain ⟨t, rfl, ht⟩ := isStr ⟨s, rfl, hs⟩
  obtain ⟨A, n, c, rfl⟩ := isSlOf8 h2
  obtain ⟨fs, rfl, g2, g3, g4, _⟩ := isSlAtP (cl := ftC) (E := 76) (P := fun _ : Int × Int => True) (fun es h => by
    obtain ⟨a0, a1, rfl, ⟨x, rfl, _⟩, ⟨y, rfl, _⟩⟩ := h
    exact ⟨(x, y), rfl, trivial⟩) (fun _ => rfl) (by decide) h2
  exact ⟨⟨b0, b1, b2, t, f, A, c, fs⟩, rfl, ht, g2, by show fs.length ≤ 9223372036854775807; unfold maxLen at g4; omega⟩
theorem isTries8 {w : World} {A : Option Addr} {n c : Nat} (h : IsSl 6 (fun w c => IsTry w c) w [.slice A n c]) : ∃ tr : List GTry8, n = tr.length ∧ SlAt tryC8 6 45 A tr w ∧ Tries8Ok tr w ∧ tr.length ≤ 9223372036854775807 := by
  obtain ⟨xs, h1, h2, h3, h4, h5⟩ := isSlAtP (cl := tryC8) (E := 45) (fun es h => isTryEl8 h) (fun _ => rfl) (by decide) h
  exact ⟨xs, h1, h2, h5, by unfold maxLen at h4; omega⟩
theorem JournalTells_walk (sa0 : Option Addr) (sl0 sc0 : Nat) (w : World) (h0 : IsSl 6 (fun w c => IsTry w c) w [.slice sa0 sl0 sc0]) :
    Calls Tryz.prog 5 #[.slice sa0 sl0 sc0] w fun e w' => e = .returned (.bool true) ∧ Below w.heap.size w w' := by
  obtain ⟨tr, rfl, hA, hT, hl⟩ := isTries8 h0
  exact (lJournalTells_c hA hT hl).mono fun _ _ h => ⟨h.1, h.2.below⟩
end Go.Proofs.YtnndkgmcjbnfbaaGreatDoor
