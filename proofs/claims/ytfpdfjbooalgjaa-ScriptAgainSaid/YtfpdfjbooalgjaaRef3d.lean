
/- The document's reader's methods, whatever is left. -/
import Derived.Test.YtfpdfjbooalgjaaRef3c
namespace Go.Proofs.Ytfpdfjbooalgjaa
open Go.RowKit
set_option linter.unusedVariables false
attribute [local go_sem] str_get str_cut run_str1 str_app str_app1 str_app0

theorem qNum_any (b : Nat) (st : Option (List UInt8)) (hlen : stLen st ≤ 1000000000) (most : Nat) (x : Int) (hx : x = most) (hm : most < 18446744073709551616) (w : World) (h : QrAt b st w) :
    Calls Try.prog 59 #[.pointer (some ⟨b, 0, none⟩), .int .u64 x] w fun e w' => e = .returned (.int .u64 (rdNum most st).1) ∧ QrAt b (rdNum most st).2 w' ∧ Keeps (fun k => k = b) w w' := by
  rcases st with _ | (_ | ⟨k, t⟩)
  · exact qNum_bad1 b x w h
  · exact qNum_bad2 b x w h
  · simp only [stLen, List.length_cons] at hlen
    by_cases h1 : 8 < k.toNat
    · have e1 : rdNum most (some (k :: t)) = (0, none) := by simp only [rdNum, decNum, if_pos (Or.inl h1 : _ ∨ t.length < k.toNat)]
      rw [e1]
      exact qNum_bad3 b k t x w h (by omega) h1
    · by_cases h2 : t.length < k.toNat
      · have e1 : rdNum most (some (k :: t)) = (0, none) := by simp only [rdNum, decNum, if_pos (Or.inr h2 : 8 < k.toNat ∨ _)]
        rw [e1]
        exact qNum_bad4 b k t x w h (by omega) h1 h2
      · exact qNum_val b k t most x hx hm (by omega) (by omega) (by omega) w h

theorem qInt_any (b : Nat) (st : Option (List UInt8)) (hlen : stLen st ≤ 1000000000) (x : Int) (hm : x ≤ 9223372036854775807) (w : World) (h : QrAt b st w) :
    Calls Try.prog 56 #[.pointer (some ⟨b, 0, none⟩), .int .i64 x] w fun e w' => e = .returned (.int .i64 (rdInt x st).1) ∧ QrAt b (rdInt x st).2 w' ∧ Keeps (fun k => k = b) w w' := by
  by_cases h0 : x < 0
  · have e0 : rdInt x st = (0, none) := by simp only [rdInt, if_pos h0]
    rw [e0]
    clear e0
    have c1 := h.cell1
    have f1 := h.free 1
    go_enter Try.func56, Try.ntmps56
    go_wp2
    go_ret
    exact ⟨rfl, h.bad, (Keeps.refl _ w).setCell _ _ (fun _ => rfl)⟩
  · obtain ⟨n, rfl⟩ := Int.eq_ofNat_of_zero_le (Int.not_lt.1 h0)
    have e0 : rdInt n st = rdNum n st := by simp only [rdInt, if_neg h0, Int.toNat_natCast]
    rw [e0]
    have hle := rdNum_le n st
    clear e0
    go_enter Try.func56, Try.ntmps56
    go_wp2_with (go_at_call 59; refine (qNum_any b st hlen n _ rfl (by omega) _ h).mono ?_; rintro e w2 ⟨rfl, h2, k2⟩)
    go_ret
    exact ⟨rfl, h2, k2⟩

set_option maxHeartbeats 1000000 in
theorem qText_any (b : Nat) (st : Option (List UInt8)) (hlen : stLen st ≤ 1000000000) (x : Int) (hm : x ≤ 9223372036854775807) (w : World) (h : QrAt b st w) :
    Calls Try.prog 58 #[.pointer (some ⟨b, 0, none⟩), .int .i64 x] w fun e w' => e = .returned (.string ⟨(rdText x st).1.toArray⟩) ∧ QrAt b (rdText x st).2 w' ∧ Keeps (fun k => k = b) w w' := by
  have hle := rdInt_len x st
  generalize hr : rdInt x st = r at *
  obtain ⟨n, st1⟩ := r
  have Hr : Hid (rdInt x st = (n, st1)) := hr
  clear hr
  go_enter Try.func58, Try.ntmps58
  go_wp2_with fail
  refine (qInt_any b st hlen _ hm _ h).mono ?_
  rw [Hr.out]
  rintro e w1 ⟨rfl, h1, k1⟩
  replace h1 : QrAt b st1 w1 := h1
  replace hle : stLen st1 ≤ stLen st := hle
  have c1 := h1.cell1
  have f1 := h1.free 1
  have f0 := h1.free 0
  rcases st1 with _ | l
  · have HT : Hid (rdText x st = ([], none)) := by show _ = _; rw [rdText, Hr.out]
    go_wp2
    go_ret
    rw [HT.out]
    exact ⟨rfl, h1.bad, k1.setCell _ _ (fun _ => rfl)⟩
  · have c0 := h1.cell0
    have hll : l.length ≤ 1000000000 := Nat.le_trans hle hlen
    by_cases h3 : n ≤ l.length
    · have HT : Hid (rdText x st = (l.take n, some (l.drop n))) := by show _ = _; rw [rdText, Hr.out]; exact if_pos h3
      have h3' : decide ((l.length : Int) < n) = false := by simp; omega
      go_wp2
      go_ret
      rw [HT.out]
      refine ⟨rfl, ?_, k1.setCell _ _ (fun _ => rfl)⟩
      show (World.setCell _ _ _).heap[b]? = _
      rw [heap_set_same h1]
      simp
    · have HT : Hid (rdText x st = ([], none)) := by show _ = _; rw [rdText, Hr.out]; exact if_neg h3
      have h3' : decide ((l.length : Int) < n) = true := by simp; omega
      go_wp2
      go_ret
      rw [HT.out]
      exact ⟨rfl, h1.bad, k1.setCell _ _ (fun _ => rfl)⟩

theorem qFlag_any (b : Nat) (st : Option (List UInt8)) (hlen : stLen st ≤ 1000000000) (w : World) (h : QrAt b st w) :
    Calls Try.prog 69 #[.pointer (some ⟨b, 0, none⟩)] w fun e w' => e = .returned (.bool (rdFlag st).1) ∧ QrAt b (rdFlag st).2 w' ∧ Keeps (fun k => k = b) w w' := by
  go_enter Try.func69, Try.ntmps69
  go_wp2_with (go_at_call 59; refine (qNum_any b st hlen 1 _ rfl (by omega) _ h).mono ?_; rintro e w1 ⟨rfl, h1, k1⟩)
  go_ret
  refine ⟨ret_bool ?_, h1, k1⟩
  rw [rdFlag, Bool.eq_iff_iff]
  simp only [beq_iff_eq, decide_eq_true_eq]
  omega

theorem qEnd_any (b : Nat) (st : Option (List UInt8)) (w : World) (h : QrAt b st w) :
    Calls Try.prog 70 #[.pointer (some ⟨b, 0, none⟩)] w fun e w' => e = .returned (.bool (decide (st = some []))) ∧ w = w' := by
  have c1 := h.cell1
  rcases st with _ | l
  · go_enter Try.func70, Try.ntmps70
    go_wp2
    go_ret
    exact ⟨rfl, rfl⟩
  · have c0 := h.cell0
    go_enter Try.func70, Try.ntmps70
    go_wp2
    go_ret
    refine ⟨ret_bool ?_, rfl⟩
    cases l <;> simp

end Go.Proofs.Ytfpdfjbooalgjaa
