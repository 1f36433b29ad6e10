
/- What arguments are: numbers, texts. -/
import Derived.Test.YtdoenmokahbeaaaGreatDoorArgs
import Derived.Test.YtdoenmokahbeaaaGreatDoorMem
namespace Go.Proofs.YtdoenmokahbeaaaGreatDoor
open Go.RowKit
set_option linter.unusedVariables false

theorem u64_wf {x : Int} (h2 : (Lit.int .u64 x).wf = true) : ∃ n : Nat, x = (n : Int) ∧ n < 18446744073709551616 := by
  simp [Lit.wf, IntKind.min, IntKind.max, IntKind.signed, IntKind.bits] at h2
  exact ⟨x.toNat, by omega, by omega⟩
theorem u8_wf {x : Int} (h2 : (Lit.int .u8 x).wf = true) : ∃ u : UInt8, x = (u.toNat : Int) := by
  simp [Lit.wf, IntKind.min, IntKind.max, IntKind.signed, IntKind.bits] at h2
  exact ⟨UInt8.ofNat x.toNat, by rw [UInt8.toNat_ofNat']; omega⟩
theorem isInt {k : IntKind} {x : Int} (h : IsInt k [.int k x]) : (Lit.int k x).wf = true := by
  obtain ⟨n, h1, h2⟩ := h
  simp only [List.cons.injEq, Value.int.injEq, true_and, and_true] at h1
  rw [h1]; exact h2
theorem isStr {s : ByteArray} (h : IsStr [.string s]) : ∃ l : List UInt8, s = ⟨l.toArray⟩ ∧ l.length ≤ 9223372036854775807 := by
  obtain ⟨n, h1, h2⟩ := h
  simp only [List.cons.injEq, Value.string.injEq, and_true] at h1
  subst h1
  obtain ⟨⟨l⟩⟩ := s
  exact ⟨l, rfl, by simpa [maxLen, ByteArray.size] using h2⟩
end Go.Proofs.YtdoenmokahbeaaaGreatDoor
