
/- Chapter 07's walks: two epochs. -/
import Derived.Test.YtdoenmokahbeaaaDoorWl8
import Derived.Test.YtdoenmokahbeaaaDoorArgs0
import Derived.Test.YtdoenmokahbeaaaDoorSlArgs
namespace Go.Proofs.YtdoenmokahbeaaaDoor
open Go.RowKit
set_option linter.unusedVariables false

theorem isStrs {w : World} {A : Option Addr} {n c : Nat} (h : IsSl 1 (fun w c => IsStr c) w [.slice A n c]) : ∃ l : List (List UInt8), n = l.length ∧ SlAt strC 1 9 A l w ∧ (∀ s ∈ l, s.length ≤ 9223372036854775807) ∧ l.length ≤ 9223372036854775807 := by
  obtain ⟨xs, h1, h2, h3, h4, h5⟩ := isSlAtP (cl := strC) (E := 9) (P := fun (l : List UInt8) => l.length ≤ 9223372036854775807) (fun es h => by
    obtain ⟨n, rfl, hn⟩ := h
    obtain ⟨t, rfl, ht⟩ := isStr ⟨n, rfl, hn⟩
    exact ⟨t, rfl, ht⟩) (fun _ => rfl) (by decide) h
  exact ⟨xs, h1, h2, h5, by unfold maxLen at h4; omega⟩
theorem WalEpochs_walk (sa0 : Option Addr) (sl0 sc0 : Nat) (sa1 : Option Addr) (sl1 sc1 : Nat) (w : World) (h0 : IsSl 1 (fun w c => IsStr c) w [.slice sa0 sl0 sc0]) (h1 : IsSl 1 (fun w c => IsStr c) w [.slice sa1 sl1 sc1]) :
    Calls Tryd.prog 8 #[.slice sa0 sl0 sc0, .slice sa1 sl1 sc1] w fun e w' => e = .returned (.bool true) ∧ Below w.heap.size w w' := by
  obtain ⟨l, rfl, hL, hm, hl⟩ := isStrs h0
  obtain ⟨k, rfl, kL, km, kl⟩ := isStrs h1
  exact (lWalEpochs_c hL kL hm km hl kl).mono fun _ _ h => ⟨h.1, h.2.below⟩

end Go.Proofs.YtdoenmokahbeaaaDoor
