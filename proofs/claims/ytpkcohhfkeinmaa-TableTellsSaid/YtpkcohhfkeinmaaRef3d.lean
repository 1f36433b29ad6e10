
/- The document's reader's methods, whatever is left. -/
import Derived.Test.YtpkcohhfkeinmaaRef3c
namespace Go.Proofs.Ytpkcohhfkeinmaa
open Go.RowKit
set_option linter.unusedVariables false
attribute [local go_sem] str_get str_cut run_str1 str_app str_app1 str_app0

theorem qNum_any (b : Nat) (st : Option (List UInt8)) (hlen : stLen st ≤ 1000000000) (most : Nat) (x : Int) (hx : x = most) (hm : most < 18446744073709551616) (w : World) (h : QrAt b st w) :
    Calls Try.prog 66 #[.pointer (some ⟨b, 0, none⟩), .int .u64 x] w fun e w' => e = .returned (.int .u64 (rdNum most st).1) ∧ QrAt b (rdNum most st).2 w' ∧ Keeps (fun k => k = b) w w' := by
  rcases st with _ | (_ | ⟨k, t⟩)
  · exact qNum_bad1 b x w h
  · exact qNum_bad2 b x w h
  · simp only [stLen, List.length_cons] at hlen
    by_cases h1 : 8 < k.toNat
    · have e1 : rdNum most (some (k :: t)) = (0, none) := by simp only [rdNum, decNum, if_pos (Or.inl h1 : _ ∨ t.length < k.toNat)]
      rw [e1]
      exact qNum_bad3 b k t x w h (by omega) h1
    · by_cases h2 : t.length < k.toNat
      · have e1 : rdNum most (some (k :: t)) = (0, none) := by simp only [rdNum, decNum, if_pos (Or.inr h2 : 8 < k.toNat ∨ _)]
        rw [e1]
        exact qNum_bad4 b k t x w h (by omega) h1 h2
      · exact qNum_val b k t most x hx hm (by omega) (by omega) (by omega) w h

theorem qInt_any (b : Nat) (st : Option (List UInt8)) (hlen : stLen st ≤ 1000000000) (x : Int) (hm : x ≤ 9223372036854775807) (w : World) (h : QrAt b st w) :
    Calls Try.prog 65 #[.pointer (some ⟨b, 0, none⟩), .int .i64 x] w fun e w' => e = .returned (.int .i64 (rdInt x st).1) ∧ QrAt b (rdInt x st).2 w' ∧ Keeps (fun k => k = b) w w' := by
  by_cases h0 : x < 0
  · have e0 : rdInt x st = (0, none) := by simp only [rdInt, if_pos h0]
    rw [e0]
    clear e0
    have c1 := h.cell1
    have f1 := h.free 1
    go_enter Try.func65, Try.ntmps65
    go_wp2
    go_ret
    exact ⟨rfl, h.bad, (Keeps.refl _ w).setCell _ _ (fun _ => rfl)⟩
  · obtain ⟨n, rfl⟩ := Int.eq_ofNat_of_zero_le (Int.not_lt.1 h0)
    have e0 : rdInt n st = rdNum n st := by simp only [rdInt, if_neg h0, Int.toNat_natCast]
    rw [e0]
    have hle := rdNum_le n st
    clear e0
    go_enter Try.func65, Try.ntmps65
    go_wp2_with (go_at_call 66; refine (qNum_any b st hlen n _ rfl (by omega) _ h).mono ?_; rintro e w2 ⟨rfl, h2, k2⟩)
    go_ret
    exact ⟨rfl, h2, k2⟩

theorem qFlag_any (b : Nat) (st : Option (List UInt8)) (hlen : stLen st ≤ 1000000000) (w : World) (h : QrAt b st w) :
    Calls Try.prog 67 #[.pointer (some ⟨b, 0, none⟩)] w fun e w' => e = .returned (.bool (rdFlag st).1) ∧ QrAt b (rdFlag st).2 w' ∧ Keeps (fun k => k = b) w w' := by
  go_enter Try.func67, Try.ntmps67
  go_wp2_with (go_at_call 66; refine (qNum_any b st hlen 1 _ rfl (by omega) _ h).mono ?_; rintro e w1 ⟨rfl, h1, k1⟩)
  go_ret
  refine ⟨ret_bool ?_, h1, k1⟩
  rw [rdFlag, Bool.eq_iff_iff]
  simp only [beq_iff_eq, decide_eq_true_eq]
  omega

theorem qEnd_any (b : Nat) (st : Option (List UInt8)) (w : World) (h : QrAt b st w) :
    Calls Try.prog 68 #[.pointer (some ⟨b, 0, none⟩)] w fun e w' => e = .returned (.bool (decide (st = some []))) ∧ w = w' := by
  have c1 := h.cell1
  rcases st with _ | l
  · go_enter Try.func68, Try.ntmps68
    go_wp2
    go_ret
    exact ⟨rfl, rfl⟩
  · have c0 := h.cell0
    go_enter Try.func68, Try.ntmps68
    go_wp2
    go_ret
    refine ⟨ret_bool ?_, rfl⟩
    cases l <;> simp

end Go.Proofs.Ytpkcohhfkeinmaa
