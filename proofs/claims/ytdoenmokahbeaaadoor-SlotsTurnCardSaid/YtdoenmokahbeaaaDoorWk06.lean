
/- Chapter 06's walks. -/
import Derived.Test.YtdoenmokahbeaaaDoorSv7
import Derived.Test.YtdoenmokahbeaaaDoorArgs0
import Derived.Test.YtdoenmokahbeaaaDoorSlArgs
namespace Go.Proofs.YtdoenmokahbeaaaDoor
open Go.RowKit
set_option linter.unusedVariables false

theorem isStrs6 {w : World} {A : Option Addr} {n c : Nat} (h : IsSl 1 (fun w c => IsStr c) w [.slice A n c]) : ∃ l : List (List UInt8), n = l.length ∧ SlAt strC 1 9 A l w ∧ (∀ s ∈ l, s.length ≤ 9223372036854775807) ∧ l.length ≤ 9223372036854775807 := by
  obtain ⟨xs, h1, h2, h3, h4, h5⟩ := isSlAtP (cl := strC) (E := 9) (P := fun (l : List UInt8) => l.length ≤ 9223372036854775807) (fun es h => by
    obtain ⟨n, rfl, hn⟩ := h
    obtain ⟨t, rfl, ht⟩ := isStr ⟨n, rfl, hn⟩
    exact ⟨t, rfl, ht⟩) (fun _ => rfl) (by decide) h
  exact ⟨xs, h1, h2, h5, by unfold maxLen at h4; omega⟩
theorem i64_rng6 {x : Int} (h2 : (Lit.int .i64 x).wf = true) : -9223372036854775808 ≤ x ∧ x ≤ 9223372036854775807 := by
  simp [Lit.wf, IntKind.min, IntKind.max, IntKind.signed, IntKind.bits] at h2
  exact ⟨by omega, by omega⟩
theorem SlotsNil_walk (x0 : Int) (x1 : Int) (x2 : Int) (w : World) (h0 : IsInt .i64 [.int .i64 x0]) (h1 : IsInt .i64 [.int .i64 x1]) (h2 : IsInt .i64 [.int .i64 x2]) :
    Calls Tryd.prog 13 #[.int .i64 x0, .int .i64 x1, .int .i64 x2] w fun e w' => e = .returned (.bool true) ∧ Below w.heap.size w w' :=
  (lSlotsNil_c x0 x1 x2 (i64_rng6 (isInt h1)) (i64_rng6 (isInt h2)) w).mono fun _ _ h => ⟨h.1, h.2.below⟩
theorem SlotsTurn_walk (sa0 : Option Addr) (sl0 sc0 : Nat) (w : World) (h0 : IsSl 1 (fun w c => IsStr c) w [.slice sa0 sl0 sc0]) :
    Calls Tryd.prog 12 #[.slice sa0 sl0 sc0] w fun e w' => e = .returned (.bool true) ∧ Below w.heap.size w w' := by
  obtain ⟨l, rfl, hL, hm, hl⟩ := isStrs6 h0
  exact (lSlotsTurn_c hL hm hl).mono fun _ _ h => ⟨h.1, h.2.below⟩
theorem SlotsState_walk (x0 : Int) (w : World) (h0 : IsInt .i64 [.int .i64 x0]) :
    Calls Tryd.prog 11 #[.int .i64 x0] w fun e w' => e = .returned (.bool true) ∧ Below w.heap.size w w' :=
  (lSlotsState_c x0 w).mono fun _ _ h => ⟨h.1, h.2.below⟩

end Go.Proofs.YtdoenmokahbeaaaDoor
