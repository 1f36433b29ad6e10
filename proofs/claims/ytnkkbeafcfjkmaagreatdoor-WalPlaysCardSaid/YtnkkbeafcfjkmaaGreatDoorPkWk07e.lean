/- Wk07e. -/
import Derived.Test.YtnkkbeafcfjkmaaGreatDoorPk6
namespace Go.Proofs.YtnkkbeafcfjkmaaGreatDoor
open Go.RowKit
set_option linter.unusedVariables false
theorem isSlOf7 {m : Nat} {El : World → List Value → Prop} {w : World} {cs : List Value} (h : IsSl m El w cs) : ∃ A n c, cs = [.slice A n c] := by
  rcases h with h | ⟨a, len, cap, h, _⟩
  · exact ⟨none, 0, 0, h⟩
  · exact ⟨some a, len, cap, h⟩
theorem u64_wf7 {x : Int} (h2 : (Lit.int .u64 x).wf = true) : ∃ n : Nat, x = (n : Int) ∧ n < 18446744073709551616 := by
  simp [Lit.wf, IntKind.min, IntKind.max, IntKind.signed, IntKind.bits] at h2
  exact ⟨x.toNat, by omega, by omega⟩
theorem isOpEl7 {w : World} {es : List Value} (h : IsOp w es) : ∃ y : GOp7, es = opC7 y ∧ (y.t.length ≤ 9223372036854775807 ∧ y.e < 18446744073709551616 ∧ SlAt ftC 2 81 y.A y.fs w ∧ y.fs.length ≤ 9223372036854775807) := by
  obtain ⟨c0, c1, c2, c3, c4, c5, c6, rfl, ⟨k, rfl, hk⟩, ⟨n, rfl, hn⟩, ⟨s, rfl, hs⟩, ⟨e, rfl, he⟩, ⟨b0, rfl⟩, ⟨b1, rfl⟩, h2⟩ := h
  obtain ⟨t, rfl, ht⟩ := isStr ⟨s, rfl, hs⟩
  obtain ⟨e, rfl, he2⟩ := u64_wf7 he
  obtain ⟨A, m, c, rfl⟩ := isSlOf7 h2
  obtain ⟨fs, rfl, g2, g3, g4, _⟩ := isSlAtP (cl := ftC) (E := 81) (P := fun _ : Int × Int => True) (fun es h => by
    obtain ⟨a0, a1, rfl, ⟨x, rfl, _⟩, ⟨y, rfl, _⟩⟩ := h
    exact ⟨(x, y), rfl, trivial⟩) (fun _ => rfl) (by decide) h2
  exact ⟨⟨k, n, t, e, b0, b1, A, c, fs⟩, rfl, ht, he2, g2, by show fs.length ≤ 9223372036854775807; unfold maxLen at g4; omega⟩
theorem isOps7 {w : World} {A : Option Addr} {n c : Nat} (h : IsSl 7 (fun w c => IsOp w c) w [.slice A n c]) : ∃ tr : List GOp7, n = tr.length ∧ SlAt opC7 7 35 A tr w ∧ Ops7Ok tr w ∧ tr.length ≤ 9223372036854775807 := by
  obtain ⟨xs, h1, h2, h3, h4, h5⟩ := isSlAtP (cl := opC7) (E := 35) (fun es h => isOpEl7 h) (fun _ => rfl) (by decide) h
  exact ⟨xs, h1, h2, h5, by unfold maxLen at h4; omega⟩
theorem WalPlays_walk (x0 : Int) (sa1 : Option Addr) (sl1 sc1 : Nat) (w : World) (h0 : IsInt .i64 [.int .i64 x0]) (h1 : IsSl 7 (fun w c => IsOp w c) w [.slice sa1 sl1 sc1]) :
    Calls Tryz.prog 3 #[.int .i64 x0, .slice sa1 sl1 sc1] w fun e w' => e = .returned (.bool true) ∧ Below w.heap.size w w' := by
  obtain ⟨tr, rfl, hA, hT, hl⟩ := isOps7 h1
  exact (lWalPlays_c x0 hA hT hl).mono fun _ _ h => ⟨h.1, h.2.below⟩
end Go.Proofs.YtnkkbeafcfjkmaaGreatDoor
