
/- Chapter 23's walks. -/
import Derived.Test.YtfpdfjbooalgjaaSc7
import Derived.Test.YtfpdfjbooalgjaaSlArgs
namespace Go.Proofs.Ytfpdfjbooalgjaa
open Go.RowKit
set_option linter.unusedVariables false

theorem isFate {w : World} {cs : List Value} (h : IsFate w cs) : ∃ f : GFate, cs = fateC f := by
  obtain ⟨c0, c1, rfl, ⟨k, rfl, hk⟩, ⟨a, rfl, ha⟩⟩ := h
  exact ⟨⟨k, a⟩, rfl⟩
theorem isCmd {w : World} {cs : List Value} (h : IsCmd w cs) : ∃ c : GCmd, cs = cmdC c ∧ SlAt fateC 2 50 c.A c.p.fs w ∧ c.p.fs.length ≤ c.cap ∧ c.p.fs.length ≤ 9223372036854775807 := by
  obtain ⟨c0, c1, c2, c3, c4, c5, rfl, ⟨k, rfl, hk⟩, ho, ⟨i, rfl, hi⟩, ⟨wk, rfl, hwk⟩, ⟨n, rfl, hn⟩, hs⟩ := h
  obtain ⟨o, _, hov⟩ := isOp (cs := c1.toArray) (by simpa using ho)
  simp only [Value.agg.injEq] at hov
  have hov : c1 = [.int .i64 o.kind, .int .i64 o.task.id, .int .i64 o.task.c, .int .i64 o.task.d, .int .i64 o.task.t, .int .i64 o.task.m, .bool o.sv, .int .i64 o.id, .int .i64 o.c, .int .i64 o.m] := by
    have := congrArg Array.toList hov; simpa using this
  subst hov
  have hv : ∃ A n c, c5 = [.slice A n c] := by
    rcases hs with rfl | ⟨a, len, cap, rfl, _⟩ <;> exact ⟨_, _, _, rfl⟩
  obtain ⟨A, m, c, rfl⟩ := hv
  obtain ⟨fs, rfl, h1, h2, h3⟩ := isSlAt (cl := fateC) (E := 50) (fun es h => isFate h) (fun _ => rfl) (by decide) hs
  exact ⟨⟨⟨k, o, i, wk, n, fs⟩, A, c⟩, rfl, h1, h2, by unfold maxLen at h3; simp only; omega⟩
theorem isCmds {w : World} {A : Option Addr} {n c : Nat} (h : IsSl 15 (fun w c => IsCmd w c) w [.slice A n c]) : ∃ l : List GCmd, n = l.length ∧ SlAt cmdC 15 32 A l w ∧ Fts 9223372036854775807 l w ∧ l.length ≤ 9223372036854775807 := by
  obtain ⟨xs, h1, h2, h3, h4, h5⟩ := isSlAtP (cl := cmdC) (E := 32) (fun es h => isCmd h) (fun _ => rfl) (by decide) h
  exact ⟨xs, h1, h2, h5, by unfold maxLen at h4; omega⟩

theorem ScriptWrites_walk (sa0 : Option Addr) (sl0 sc0 : Nat) (w : World) (h0 : IsSl 15 (fun w c => IsCmd w c) w [.slice sa0 sl0 sc0]) :
    Calls Try.prog 3 #[.slice sa0 sl0 sc0] w fun e w' => e = .returned (.bool true) ∧ Below w.heap.size w w' := by
  obtain ⟨l, rfl, hL, hF, hl⟩ := isCmds h0
  exact (scriptWrites_any hL hF hl).mono fun _ _ h => ⟨h.1, h.2.below⟩
theorem ScriptReads_walk (sa0 : Option Addr) (sl0 sc0 : Nat) (x1 : ByteArray) (c2 : Array Value) (w : World) (h0 : IsSl 15 (fun w c => IsCmd w c) w [.slice sa0 sl0 sc0]) (h1 : IsStr [.string x1]) (h2 : IsArr3int w c2.toList) :
    Calls Try.prog 4 #[.slice sa0 sl0 sc0, .string x1, .agg c2] w fun e w' => e = .returned (.bool true) ∧ Below w.heap.size w w' := by
  obtain ⟨l, rfl, hL, hF, hl⟩ := isCmds h0
  obtain ⟨t, rfl, ht⟩ := isStr h1
  obtain ⟨a, b, c, hq⟩ := isArr3 h2
  rw [hq]
  exact (scriptReads_any hL hF hl t ht a b c).mono fun _ _ h => ⟨h.1, h.2.below⟩
theorem ScriptBack_walk (sa0 : Option Addr) (sl0 sc0 : Nat) (x1 : Int) (w : World) (h0 : IsSl 15 (fun w c => IsCmd w c) w [.slice sa0 sl0 sc0]) (h1 : IsInt .u8 [.int .u8 x1]) :
    Calls Try.prog 5 #[.slice sa0 sl0 sc0, .int .u8 x1] w fun e w' => e = .returned (.bool true) ∧ Below w.heap.size w w' := by
  obtain ⟨l, rfl, hL, hF, hl⟩ := isCmds h0
  obtain ⟨u, rfl⟩ := u8_wf (isInt h1)
  exact (scriptBack_any hL hF hl u).mono fun _ _ h => ⟨h.1, h.2.below⟩
theorem ScriptAgain_walk (x0 : ByteArray) (w : World) (h0 : IsStr [.string x0]) :
    Calls Try.prog 6 #[.string x0] w fun e w' => e = .returned (.bool true) ∧ Below w.heap.size w w' := by
  obtain ⟨t, rfl, ht⟩ := isStr h0
  exact (scriptAgain_any t ht w).mono fun _ _ h => ⟨h.1, h.2.below⟩

end Go.Proofs.Ytfpdfjbooalgjaa
