
/- Bytes of ops that may be; names. -/
import Derived.Test.YtfpdfjbooalgjaaOp6
namespace Go.Proofs.Ytfpdfjbooalgjaa
open Go.RowKit
set_option linter.unusedVariables false
set_option linter.unusedSimpArgs false

/-- An op's bytes. -/
def GOp.enc (o : GOp) : List UInt8 :=
  if o.kind = 1 then encNum 1 ++ (encNum o.task.id.toNat ++ (encNum o.task.c.toNat ++ (encNum o.task.d.toNat ++ (encNum o.task.t.toNat ++ (encNum o.task.m.toNat ++ encFlag o.sv)))))
  else if o.kind = 2 then encNum 2 ++ encNum o.id.toNat
  else if o.kind = 3 then encNum 3 ++ (encNum o.id.toNat ++ encNum o.c.toNat)
  else encNum 4 ++ encNum o.m.toNat

theorem pBytes_ok (o : GOp) (hok : o.ok) (w : World) : Calls Try.prog 42 #[o.val] w fun x w' => x = .returned (.tuple #[.string ⟨o.enc.toArray⟩, .int .i64 0]) ∧ Adds w w' := by
  have hok' := hok
  obtain ⟨hb, hr⟩ := hok'
  obtain ⟨k, ⟨a, b, c, d, e⟩, sv, i, cc, m⟩ := o
  simp only [GOp.bare] at hb
  simp only [GOp.right] at hr
  simp only [GOp.enc]
  by_cases h1 : k = 1
  · rw [if_pos h1] at hb hr ⊢
    simp only [GOp.mk.injEq, GTask.mk.injEq, true_and, and_true] at hb
    obtain ⟨rfl, rfl, rfl, rfl⟩ := hb
    simp only [GTask.ok] at hr
    obtain ⟨b', rfl⟩ := Int.eq_ofNat_of_zero_le (show 0 ≤ b by omega)
    obtain ⟨c', rfl⟩ := Int.eq_ofNat_of_zero_le (show 0 ≤ c by omega)
    obtain ⟨d', rfl⟩ := Int.eq_ofNat_of_zero_le (show 0 ≤ d by omega)
    exact pBytes_1 a e (by omega) (by omega) b' c' d' (by omega) (by omega) (by omega) sv hok w
  rw [if_neg h1] at hb hr ⊢
  by_cases h2 : k = 2
  · rw [if_pos h2] at hb hr ⊢
    simp only [GOp.mk.injEq, GTask.mk.injEq, true_and, and_true] at hb
    obtain ⟨rfl, ⟨rfl, rfl, rfl, rfl, rfl⟩, rfl, rfl, rfl⟩ := hb
    exact pBytes_2 i (by omega) hok w
  rw [if_neg h2] at hb hr ⊢
  by_cases h3 : k = 3
  · rw [if_pos h3] at hb hr ⊢
    simp only [GOp.mk.injEq, GTask.mk.injEq, true_and, and_true] at hb
    obtain ⟨rfl, ⟨rfl, rfl, rfl, rfl, rfl⟩, rfl, rfl⟩ := hb
    obtain ⟨n, rfl⟩ := Int.eq_ofNat_of_zero_le (show 0 ≤ cc by omega)
    exact pBytes_3 i (by omega) n (by omega) hok w
  rw [if_neg h3] at hb hr ⊢
  by_cases h4 : k = 4
  · rw [if_pos h4] at hb hr
    simp only [GOp.mk.injEq, GTask.mk.injEq, true_and, and_true] at hb
    obtain ⟨rfl, ⟨rfl, rfl, rfl, rfl, rfl⟩, rfl, rfl, rfl⟩ := hb
    exact pBytes_4 m (by omega) hok w
  · rw [if_neg h4] at hr
    exact hr.elim

/-- A kind's name. -/
def kindName (k : Int) : List UInt8 :=
  if k = 1 then [97, 100, 109, 105, 116] else if k = 2 then [114, 101, 109, 111, 118, 101] else if k = 3 then [114, 101, 115, 105, 122, 101] else if k = 4 then [109, 111, 100, 101] else [110, 111, 110, 101]

theorem as_admit_admit (v : Value) (w : World) : (Instr.typeAssert (.iface 101 v) 79 101 true).run Try.prog w = .ok (.tuple #[v, .bool true]) w := by kernel_rfl
theorem as_remove_admit (v : Value) (w : World) : (Instr.typeAssert (.iface 103 v) 79 101 true).run Try.prog w = .ok (.tuple #[.agg #[.int .i64 0, .int .i64 0, .int .i64 0, .int .i64 0, .int .i64 0, .bool false], .bool false]) w := by kernel_rfl
theorem as_remove_remove (v : Value) (w : World) : (Instr.typeAssert (.iface 103 v) 79 103 true).run Try.prog w = .ok (.tuple #[v, .bool true]) w := by kernel_rfl
theorem as_resize_admit (v : Value) (w : World) : (Instr.typeAssert (.iface 105 v) 79 101 true).run Try.prog w = .ok (.tuple #[.agg #[.int .i64 0, .int .i64 0, .int .i64 0, .int .i64 0, .int .i64 0, .bool false], .bool false]) w := by kernel_rfl
theorem as_resize_remove (v : Value) (w : World) : (Instr.typeAssert (.iface 105 v) 79 103 true).run Try.prog w = .ok (.tuple #[.agg #[.int .i64 0], .bool false]) w := by kernel_rfl
theorem as_resize_resize (v : Value) (w : World) : (Instr.typeAssert (.iface 105 v) 79 105 true).run Try.prog w = .ok (.tuple #[v, .bool true]) w := by kernel_rfl
theorem as_mode_admit (v : Value) (w : World) : (Instr.typeAssert (.iface 107 v) 79 101 true).run Try.prog w = .ok (.tuple #[.agg #[.int .i64 0, .int .i64 0, .int .i64 0, .int .i64 0, .int .i64 0, .bool false], .bool false]) w := by kernel_rfl
theorem as_mode_remove (v : Value) (w : World) : (Instr.typeAssert (.iface 107 v) 79 103 true).run Try.prog w = .ok (.tuple #[.agg #[.int .i64 0], .bool false]) w := by kernel_rfl
theorem as_mode_resize (v : Value) (w : World) : (Instr.typeAssert (.iface 107 v) 79 105 true).run Try.prog w = .ok (.tuple #[.agg #[.int .i64 0, .int .i64 0], .bool false]) w := by kernel_rfl
theorem as_mode_mode (v : Value) (w : World) : (Instr.typeAssert (.iface 107 v) 79 107 true).run Try.prog w = .ok (.tuple #[v, .bool true]) w := by kernel_rfl
theorem as_other_admit (v : Value) (w : World) : (Instr.typeAssert (.iface 109 v) 79 101 true).run Try.prog w = .ok (.tuple #[.agg #[.int .i64 0, .int .i64 0, .int .i64 0, .int .i64 0, .int .i64 0, .bool false], .bool false]) w := by kernel_rfl
theorem as_other_remove (v : Value) (w : World) : (Instr.typeAssert (.iface 109 v) 79 103 true).run Try.prog w = .ok (.tuple #[.agg #[.int .i64 0], .bool false]) w := by kernel_rfl
theorem as_other_resize (v : Value) (w : World) : (Instr.typeAssert (.iface 109 v) 79 105 true).run Try.prog w = .ok (.tuple #[.agg #[.int .i64 0, .int .i64 0], .bool false]) w := by kernel_rfl
theorem as_other_mode (v : Value) (w : World) : (Instr.typeAssert (.iface 109 v) 79 107 true).run Try.prog w = .ok (.tuple #[.agg #[.int .i64 0], .bool false]) w := by kernel_rfl
attribute [local go_sem] as_admit_admit as_remove_admit as_remove_remove as_resize_admit as_resize_remove as_resize_resize as_mode_admit as_mode_remove as_mode_resize as_mode_mode as_other_admit as_other_remove as_other_resize as_other_mode

end Go.Proofs.Ytfpdfjbooalgjaa
