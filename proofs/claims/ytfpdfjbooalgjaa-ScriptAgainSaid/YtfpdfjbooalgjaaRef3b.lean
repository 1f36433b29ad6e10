
/- The document's reader: Num where it fails at once. -/
import Derived.Test.YtfpdfjbooalgjaaRef3
namespace Go.Proofs.Ytfpdfjbooalgjaa
open Go.RowKit
set_option linter.unusedVariables false
attribute [local go_sem] str_get str_cut run_str1 str_app str_app1 str_app0

set_option maxRecDepth 100000 in
set_option maxHeartbeats 1000000 in
theorem qNum_bad1 (b : Nat) (x : Int) (w : World) (h : QrAt b none w) :
    Calls Try.prog 59 #[.pointer (some ⟨b, 0, none⟩), .int .u64 x] w fun e w' => e = .returned (.int .u64 0) ∧ QrAt b none w' ∧ Keeps (fun k => k = b) w w' := by
  have c1 : w.cell? ⟨b, 1, none⟩ = some (.bool true) := h.cell1
  have f1 := h.free 1
  go_enter Try.func59, Try.ntmps59
  go_wp2_with fail
  go_quiet (fail)
  go_wp2
  go_ret
  exact ⟨rfl, (h.drewN nq).bad, ((Keeps.refl _ w).drewN nq).setCell _ _ (fun _ => rfl)⟩

set_option maxRecDepth 100000 in
set_option maxHeartbeats 1000000 in
theorem qNum_bad2 (b : Nat) (x : Int) (w : World) (h : QrAt b (some []) w) :
    Calls Try.prog 59 #[.pointer (some ⟨b, 0, none⟩), .int .u64 x] w fun e w' => e = .returned (.int .u64 0) ∧ QrAt b none w' ∧ Keeps (fun k => k = b) w w' := by
  have c1 : w.cell? ⟨b, 1, none⟩ = some (.bool false) := h.cell1
  have c0 := h.cell0
  have f1 := h.free 1
  go_enter Try.func59, Try.ntmps59
  go_wp2_with fail
  go_quiet (fail)
  go_wp2
  go_ret
  exact ⟨rfl, (h.drewN nq).bad, ((Keeps.refl _ w).drewN nq).setCell _ _ (fun _ => rfl)⟩

set_option maxRecDepth 100000 in
set_option maxHeartbeats 1000000 in
theorem qNum_bad3 (b : Nat) (k : UInt8) (t : List UInt8) (x : Int) (w : World) (h : QrAt b (some (k :: t)) w) (hlen : t.length ≤ 1000000000) (hk : 8 < k.toNat) :
    Calls Try.prog 59 #[.pointer (some ⟨b, 0, none⟩), .int .u64 x] w fun e w' => e = .returned (.int .u64 0) ∧ QrAt b none w' ∧ Keeps (fun k => k = b) w w' := by
  have c1 : w.cell? ⟨b, 1, none⟩ = some (.bool false) := h.cell1
  have c0 := h.cell0
  have f1 := h.free 1
  have hk' : decide ((8 : Int) < k.toNat) = true := by simp; omega
  have hl0 : ((t.length : Int) + 1 == 0) = false := by simp; omega
  go_enter Try.func59, Try.ntmps59
  go_wp2_with fail
  go_quiet (fail)
  go_wp2
  go_ret
  exact ⟨rfl, (h.drewN nq).bad, ((Keeps.refl _ w).drewN nq).setCell _ _ (fun _ => rfl)⟩

set_option maxRecDepth 100000 in
set_option maxHeartbeats 2000000 in
theorem qNum_bad4 (b : Nat) (k : UInt8) (t : List UInt8) (x : Int) (w : World) (h : QrAt b (some (k :: t)) w) (hlen : t.length ≤ 1000000000) (hk : ¬ 8 < k.toNat) (hk2 : t.length < k.toNat) :
    Calls Try.prog 59 #[.pointer (some ⟨b, 0, none⟩), .int .u64 x] w fun e w' => e = .returned (.int .u64 0) ∧ QrAt b none w' ∧ Keeps (fun k => k = b) w w' := by
  have c1 : w.cell? ⟨b, 1, none⟩ = some (.bool false) := h.cell1
  have c0 := h.cell0
  have f1 := h.free 1
  have hk' : decide ((8 : Int) < k.toNat) = false := by simp; omega
  have hl0 : ((t.length : Int) + 1 == 0) = false := by simp; omega
  have hw : IntKind.i64.wrap (k.toNat : Int) = k.toNat := IntWalk.i64_in _ (by omega)
  have hw2 : IntKind.i64.wrap (1 + (k.toNat : Int)) = 1 + k.toNat := IntWalk.i64_in _ (by omega)
  have hk3 : decide ((t.length : Int) + 1 < 1 + k.toNat) = true := by simp; omega
  go_enter Try.func59, Try.ntmps59
  go_wp2_with fail
  go_quiet (fail)
  clear hw hw2
  go_wp2
  go_ret
  exact ⟨rfl, (h.drewN nq).bad, ((Keeps.refl _ w).drewN nq).setCell _ _ (fun _ => rfl)⟩

end Go.Proofs.Ytfpdfjbooalgjaa
