
/- What an op's cells are, where it comes in. -/
import Derived.Test.YtfpdfjbooalgjaaSy0
import Derived.Test.YtfpdfjbooalgjaaArgs
namespace Go.Proofs.Ytfpdfjbooalgjaa
open Go.RowKit
set_option linter.unusedVariables false

theorem i64_wf {x : Int} (h2 : (Lit.int .i64 x).wf = true) : i64B x := by
  simp [Lit.wf, IntKind.min, IntKind.max, IntKind.signed, IntKind.bits] at h2
  exact ⟨by omega, by omega⟩
theorem u8_wf {x : Int} (h2 : (Lit.int .u8 x).wf = true) : ∃ u : UInt8, x = (u.toNat : Int) := by
  simp [Lit.wf, IntKind.min, IntKind.max, IntKind.signed, IntKind.bits] at h2
  exact ⟨UInt8.ofNat x.toNat, by rw [UInt8.toNat_ofNat']; omega⟩
theorem isInt {k : IntKind} {x : Int} (h : IsInt k [.int k x]) : (Lit.int k x).wf = true := by
  obtain ⟨n, h1, h2⟩ := h
  simp only [List.cons.injEq, Value.int.injEq, true_and, and_true] at h1
  rw [h1]; exact h2
theorem isStr {s : ByteArray} (h : IsStr [.string s]) : ∃ l : List UInt8, s = ⟨l.toArray⟩ ∧ l.length ≤ 9223372036854775807 := by
  obtain ⟨n, h1, h2⟩ := h
  simp only [List.cons.injEq, Value.string.injEq, and_true] at h1
  subst h1
  obtain ⟨⟨l⟩⟩ := s
  exact ⟨l, rfl, by simpa [maxLen, ByteArray.size] using h2⟩
/-- An op's cells. -/
theorem isOp {w : World} {cs : Array Value} (h : IsOp w cs.toList) : ∃ o : GOp, o.wf ∧ Value.agg cs = o.val := by
  obtain ⟨l⟩ := cs
  obtain ⟨c0, c1, c2, c3, c4, c5, rfl, ⟨k, rfl, hk⟩, ⟨t0, t1, t2, t3, t4, rfl, ⟨a, rfl, ha⟩, ⟨b, rfl, hb⟩, ⟨c, rfl, hc⟩, ⟨d, rfl, hd⟩, ⟨e, rfl, he⟩⟩, ⟨sv, rfl⟩, ⟨i, rfl, hi⟩, ⟨cc, rfl, hcc⟩, ⟨m, rfl, hm⟩⟩ := h
  exact ⟨⟨k, ⟨a, b, c, d, e⟩, sv, i, cc, m⟩, ⟨i64_wf hk, ⟨i64_wf ha, i64_wf hb, i64_wf hc, i64_wf hd, i64_wf he⟩, i64_wf hi, i64_wf hcc, i64_wf hm⟩, rfl⟩
theorem isArr3 {w : World} {cs : Array Value} (h : IsArr3int w cs.toList) : ∃ a b c : Int, Value.agg cs = .agg #[.int .i64 a, .int .i64 b, .int .i64 c] := by
  obtain ⟨l⟩ := cs
  obtain ⟨c0, c1, c2, rfl, ⟨k, rfl, hk⟩, ⟨a, rfl, ha⟩, ⟨b, rfl, hb⟩⟩ := h
  exact ⟨k, a, b, rfl⟩

end Go.Proofs.Ytfpdfjbooalgjaa
