
/- The document's answer for octet, walked. -/
import Derived.Test.YtfpdfjbooalgjaaOctR3
import Derived.Lib.ConvBytes
import Derived.Laws.BytesString
import Derived.Laws.BytesArg
import Derived.Deep.RegionHeld3
namespace Go.Proofs.Ytfpdfjbooalgjaa
open Go.RowKit
set_option linter.unusedVariables false

theorem run_str1 (w : World) (n : Int) : (convert 38 9 (.slice (some ⟨w.heap.size, 0, none⟩) 1 1)).run Try.prog (w.alloc (.cells #[.int .u8 n] 5)) =
    .ok (.string ⟨[UInt8.ofNat n.toNat].toArray⟩) (w.alloc (.cells #[.int .u8 n] 5)) := by
  rw [run_convert_bytes_arg (w.alloc (.cells #[.int .u8 n] 5)) 38 5 Try.underlying38 Try.underlying5 w.heap.size 0 1 1 [n] rfl ?_ 9 Try.underlying9]
  · rfl
  · intro i hi
    obtain rfl : i = 0 := by omega
    exact cell_at (heap_alloc_new' w _) 0 rfl

attribute [local go_sem] str_get str_cut run_str1 str_app str_app1 str_app0

theorem qNumS_any (n : Nat) (x : Int) (hx : x = n) (hn : n < 18446744073709551616) (w : World) :
    Calls Try.prog 50 #[.int .u64 x] w fun e w' => e = .returned (.string ⟨(encNum n).toArray⟩) ∧ Adds w w' := by
  subst hx
  have hl8 := beb_len8 n hn
  go_enter Try.func50, Try.ntmps50
  go_wp2_with fail
  go_loopw [0, 3] (fun nv sv wr => ∃ (m : Nat) (s : List UInt8), m ≤ n ∧ nv = .int .u64 m ∧ sv = .string ⟨s.toArray⟩ ∧ beb n = beb m ++ s ∧ Adds w wr) (fun nv _ _ => (intOf nv).toNat)
  case atStart => exact ⟨n, [], by omega, rfl, rfl, by simp, Keeps.refl _ _⟩
  case round =>
    obtain ⟨m, s, hm, rfl, rfl, hs, hk⟩ := hrel
    have hsl : s.length ≤ 8 := by rw [hs, List.length_append] at hl8; omega
    have hS : Hid (beb n = beb m ++ s) := hs
    clear hs
    by_cases h0 : m = 0
    · subst h0
      go_wp2
      go_ret
      refine ⟨ret_str ?_, hk.alloc _⟩
      rw [encNum, hS.out, beb_zero, List.nil_append]
    · have h0' : (0 : Int) < m := by omega
      go_wp2
      go_roundw
      case rel =>
        refine ⟨m / 256, UInt8.ofNat (m % 256) :: s, by omega, by go_num, by simp, ?_, hk.alloc _⟩
        rw [hS.out, beb_pos h0]; simp
      case measure => simp [intOf]; omega


theorem qIntS_any (x : Int) (hx : x ≤ 9223372036854775807) (w : World) :
    Calls Try.prog 47 #[.int .i64 x] w fun e w' => e = .returned (.string ⟨(encNum x.toNat).toArray⟩) ∧ Adds w w' := by
  by_cases h0 : 0 ≤ x
  · obtain ⟨n, rfl⟩ := Int.eq_ofNat_of_zero_le h0
    rw [Int.toNat_natCast]
    go_enter Try.func47, Try.ntmps47
    go_wp2_with (go_at_call 50; refine (qNumS_any n _ rfl (by omega) _).mono ?_; rintro e w1 ⟨rfl, k1⟩)
    go_ret
    exact ⟨rfl, k1⟩
  · have e0 : x.toNat = 0 := by omega
    rw [e0]
    clear e0
    go_enter Try.func47, Try.ntmps47
    go_wp2_with (go_at_call 50; refine (qNumS_any 0 _ rfl (by omega) _).mono ?_; rintro e w1 ⟨rfl, k1⟩)
    go_ret
    exact ⟨rfl, k1⟩

theorem qTextS_any (l : List UInt8) (hl : l.length ≤ 1000000000) (w : World) :
    Calls Try.prog 49 #[.string ⟨l.toArray⟩] w fun e w' => e = .returned (.string ⟨(encText l).toArray⟩) ∧ Adds w w' := by
  have hn := encNum_len l.length (by omega)
  go_enter Try.func49, Try.ntmps49
  go_wp2_with (go_at_call 50; refine (qNumS_any l.length _ rfl (by omega) _).mono ?_; rintro e w1 ⟨rfl, k1⟩)
  go_ret
  exact ⟨rfl, k1⟩

theorem qFlagS_any (f : Bool) (w : World) :
    Calls Try.prog 63 #[.bool f] w fun e w' => e = .returned (.string ⟨(encFlag f).toArray⟩) ∧ Adds w w' := by
  cases f
  · go_enter Try.func63, Try.ntmps63
    go_wp2_with (go_at_call 50; refine (qNumS_any 0 _ rfl (by omega) _).mono ?_; rintro e w1 ⟨rfl, k1⟩)
    go_ret
    exact ⟨rfl, k1⟩
  · go_enter Try.func63, Try.ntmps63
    go_wp2_with (go_at_call 50; refine (qNumS_any 1 _ rfl (by omega) _).mono ?_; rintro e w1 ⟨rfl, k1⟩)
    go_ret
    exact ⟨rfl, k1⟩

/-- The document's reader in block b. -/
def QrAt (b : Nat) (st : Option (List UInt8)) (w : World) : Prop :=
  match st with
  | some l => w.heap[b]? = some (.cells #[.string ⟨l.toArray⟩, .bool false] 75 (0, 0))
  | none => ∃ s, w.heap[b]? = some (.cells #[.string s, .bool true] 75 (0, 0))

theorem QrAt.keeps {b : Nat} {st : Option (List UInt8)} {w w' : World} {S : Nat → Prop} (h : QrAt b st w) (k : Keeps S w w') (hn : ¬ S b) : QrAt b st w' := by
  cases st with
  | some l => exact k.heap h hn
  | none => obtain ⟨s, h⟩ := h; exact ⟨s, k.heap h hn⟩
theorem QrAt.cell1 {b : Nat} {st : Option (List UInt8)} {w : World} (h : QrAt b st w) : w.cell? ⟨b, 1, none⟩ = some (.bool (!st.isSome)) := by
  cases st with
  | some l => exact cell_at h 1 rfl
  | none => obtain ⟨s, h⟩ := h; exact cell_at h 1 rfl
theorem QrAt.cell0 {b : Nat} {l : List UInt8} {w : World} (h : QrAt b (some l) w) : w.cell? ⟨b, 0, none⟩ = some (.string ⟨l.toArray⟩) := cell_at h 0 rfl
theorem QrAt.free {b : Nat} {st : Option (List UInt8)} {w : World} (h : QrAt b st w) (j : Nat) : w.frozen? ⟨b, j, none⟩ = false := by
  cases st with
  | some l => exact free_at h j
  | none => obtain ⟨s, h⟩ := h; exact free_at h j
theorem QrAt.bad {b : Nat} {st : Option (List UInt8)} {w : World} (h : QrAt b st w) : QrAt b none (w.setCell ⟨b, 1, none⟩ (.bool true)) := by
  cases st with
  | some l => exact ⟨_, by rw [heap_set_same h]; rfl⟩
  | none => obtain ⟨s, h⟩ := h; exact ⟨s, by rw [heap_set_same h]; rfl⟩
theorem QrAt.drewN {b : Nat} {st : Option (List UInt8)} {w : World} (h : QrAt b st w) (n : Nat) : QrAt b st (w.drewN n) := by
  cases st with
  | some l => exact h
  | none => exact h

end Go.Proofs.Ytfpdfjbooalgjaa
