
/- Chapter 04's walks. -/
import Derived.Test.YtdoenmokahbeaaaDoorFr8
import Derived.Test.YtdoenmokahbeaaaDoorArgs0
namespace Go.Proofs.YtdoenmokahbeaaaDoor
open Go.RowKit
set_option linter.unusedVariables false

theorem isCellArg {w : World} {cs : Array Value} (h : IsCell w cs.toList) : ∃ (p : List UInt8) (e n : Nat), p.length ≤ 9223372036854775807 ∧ e < 18446744073709551616 ∧ n < 18446744073709551616 ∧ cs = #[.string ⟨p.toArray⟩, .int .u64 (e : Int), .int .u64 (n : Int)] := by
  obtain ⟨l⟩ := cs
  obtain ⟨c0, c1, c2, rfl, ⟨s, rfl, hs⟩, ⟨e, rfl, he⟩, ⟨n, rfl, hn⟩⟩ := h
  obtain ⟨p, rfl, hp⟩ := isStr ⟨s, rfl, hs⟩
  obtain ⟨e, rfl, he2⟩ := u64_wf he
  obtain ⟨n, rfl, hn2⟩ := u64_wf hn
  exact ⟨p, e, n, hp, he2, hn2, rfl⟩
theorem FrameReads_walk (c0 : Array Value) (x1 : ByteArray) (c2 : Array Value) (w : World) (h0 : IsCell w c0.toList) (h1 : IsStr [.string x1]) (h2 : IsArr3int w c2.toList) :
    Calls Tryd.prog 3 #[.agg c0, .string x1, .agg c2] w fun e w' => e = .returned (.bool true) ∧ Below w.heap.size w w' := by
  obtain ⟨p, e, n, hp, he, hn, rfl⟩ := isCellArg h0
  obtain ⟨t, rfl, ht⟩ := isStr h1
  obtain ⟨a, b, c, hq⟩ := isArr3 h2
  rw [hq]
  exact (lFrameReads_c hp he hn ht a b c w).mono fun _ _ h => ⟨h.1, h.2.below⟩
theorem FrameBack_walk (c0 : Array Value) (x1 : Int) (x2 : Int) (w : World) (h0 : IsCell w c0.toList) (h1 : IsInt .i64 [.int .i64 x1]) (h2 : IsInt .u8 [.int .u8 x2]) :
    Calls Tryd.prog 4 #[.agg c0, .int .i64 x1, .int .u8 x2] w fun e w' => e = .returned (.bool true) ∧ Below w.heap.size w w' := by
  obtain ⟨p, e, n, hp, he, hn, rfl⟩ := isCellArg h0
  obtain ⟨u, rfl⟩ := u8_wf (isInt h2)
  exact (lFrameBack_c hp he hn x1 u w).mono fun _ _ h => ⟨h.1, h.2.below⟩
theorem FrameTorn_walk (c0 : Array Value) (x1 : ByteArray) (x2 : Int) (w : World) (h0 : IsCell w c0.toList) (h1 : IsStr [.string x1]) (h2 : IsInt .i64 [.int .i64 x2]) :
    Calls Tryd.prog 5 #[.agg c0, .string x1, .int .i64 x2] w fun e w' => e = .returned (.bool true) ∧ Below w.heap.size w w' := by
  obtain ⟨p, e, n, hp, he, hn, rfl⟩ := isCellArg h0
  obtain ⟨t, rfl, ht⟩ := isStr h1
  exact (lFrameTorn_c hp he hn ht x2 w).mono fun _ _ h => ⟨h.1, h.2.below⟩
theorem FrameMakes_walk (c0 : Array Value) (x1 : ByteArray) (w : World) (h0 : IsCell w c0.toList) (h1 : IsStr [.string x1]) :
    Calls Tryd.prog 6 #[.agg c0, .string x1] w fun e w' => e = .returned (.bool true) ∧ Below w.heap.size w w' := by
  obtain ⟨p, e, n, hp, he, hn, rfl⟩ := isCellArg h0
  obtain ⟨t, rfl, ht⟩ := isStr h1
  exact (lFrameMakes_c hp he hn ht w).mono fun _ _ h => ⟨h.1, h.2.below⟩
theorem FrameChunks_walk (x0 : ByteArray) (w : World) (h0 : IsStr [.string x0]) :
    Calls Tryd.prog 7 #[.string x0] w fun e w' => e = .returned (.bool true) ∧ Below w.heap.size w w' := by
  obtain ⟨t, rfl, ht⟩ := isStr h0
  exact (lFrameChunks_c ht w).mono fun _ _ h => ⟨h.1, h.2.below⟩

end Go.Proofs.YtdoenmokahbeaaaDoor
