
/- octet.Reader's methods, whatever is left. -/
import Derived.Test.YtfpdfjbooalgjaaOctR2
namespace Go.Proofs.Ytfpdfjbooalgjaa
open Go.RowKit
set_option linter.unusedVariables false
attribute [local go_sem] str_get str_cut

theorem rNum_any (b : Nat) (st : Option (List UInt8)) (hlen : stLen st ≤ 1000000000) (most : Nat) (x : Int) (hx : x = most) (hm : most < 18446744073709551616) (w : World) (h : RdAt b st w) :
    Calls Try.prog 54 #[.pointer (some ⟨b, 0, none⟩), .int .u64 x] w fun e w' => e = .returned (.int .u64 (rdNum most st).1) ∧ RdAt b (rdNum most st).2 w' ∧ Keeps (fun k => k = b) w w' := by
  have bad : numBad st → rdNum most st = (0, none) → Calls Try.prog 54 #[.pointer (some ⟨b, 0, none⟩), .int .u64 x] w fun e w' => e = .returned (.int .u64 (rdNum most st).1) ∧ RdAt b (rdNum most st).2 w' ∧ Keeps (fun k => k = b) w w' := by
    intro h1 h2
    rw [h2]
    exact rNum_bad b st h1 (by intro l hl; subst hl; exact hlen) x w h
  rcases st with _ | (_ | ⟨k, t⟩)
  · exact bad trivial rfl
  · exact bad trivial rfl
  · by_cases h1 : 8 < k.toNat ∨ t.length < k.toNat
    · exact bad h1 (by simp only [rdNum, decNum, if_pos h1])
    · have hk : k.toNat ≤ 8 := by omega
      have hk2 : k.toNat ≤ t.length := by omega
      simp only [stLen, List.length_cons] at hlen
      by_cases hz : (t.take k.toNat).head? = some 0
      · have e1 : rdNum most (some (k :: t)) = (0, none) := by
          simp only [rdNum, decNum, if_neg h1, if_pos (Or.inl hz : _ ∨ most < beval (t.take k.toNat))]
        rw [e1]
        cases t with
        | nil => simp at hz
        | cons c t =>
          have hk1 : 1 ≤ k.toNat := by
            rcases Nat.eq_zero_or_pos k.toNat with h0 | h0
            · rw [h0] at hz; simp at hz
            · exact h0
          have hc : c = 0 := by
            rw [List.head?_take, if_neg (by omega)] at hz
            simpa using hz
          subst hc
          simp only [List.length_cons] at hlen hk2
          exact rNum_zero b k t x hk hk1 hk2 (by omega) w h
      · refine (rNum_val b k t most x hx hm hk hk2 hz (by omega) w h).mono ?_
        rintro e w' ⟨rfl, h2, k2⟩
        by_cases h3 : most < beval (t.take k.toNat)
        · have e1 : rdNum most (some (k :: t)) = (0, none) := by
            simp only [rdNum, decNum, if_neg h1, if_pos (Or.inr h3 : (t.take k.toNat).head? = some 0 ∨ _)]
          rw [if_pos h3] at h2 ⊢
          rw [e1]
          exact ⟨rfl, h2, k2⟩
        · have e1 : rdNum most (some (k :: t)) = (beval (t.take k.toNat), some (t.drop k.toNat)) := by
            simp only [rdNum, decNum, if_neg h1, if_neg (fun x => Or.elim x hz h3 : ¬ ((t.take k.toNat).head? = some 0 ∨ most < beval (t.take k.toNat)))]
          rw [if_neg h3] at h2 ⊢
          rw [e1]
          exact ⟨rfl, h2, k2⟩

theorem rInt_any (b : Nat) (st : Option (List UInt8)) (hlen : stLen st ≤ 1000000000) (x : Int) (hm : x ≤ 9223372036854775807) (w : World) (h : RdAt b st w) :
    Calls Try.prog 51 #[.pointer (some ⟨b, 0, none⟩), .int .i64 x] w fun e w' => e = .returned (.int .i64 (rdInt x st).1) ∧ RdAt b (rdInt x st).2 w' ∧ Keeps (fun k => k = b) w w' := by
  by_cases h0 : x < 0
  · have e0 : rdInt x st = (0, none) := by simp only [rdInt, if_pos h0]
    rw [e0]
    have hmx : max x 0 = 0 := by omega
    clear e0
    go_enter Try.func51, Try.ntmps51
    go_wp2_with (go_at_call 64; refine (rFails_any b _ _ h).mono ?_; rintro e w1 ⟨rfl, h1, k1⟩)
    go_wp2_with (go_at_call 54; refine (rNum_any b none (by simp [stLen]) 0 _ rfl (by omega) _ h1).mono ?_; rintro e w2 ⟨rfl, h2, k2⟩)
    rw [rdNum_none] at h2 ⊢
    go_wp2
    go_ret
    exact ⟨ret_int (by unfold wrap64; omega), h2, k1.trans k2⟩
  · obtain ⟨n, rfl⟩ := Int.eq_ofNat_of_zero_le (Int.not_lt.1 h0)
    have e0 : rdInt n st = rdNum n st := by simp only [rdInt, if_neg h0, Int.toNat_natCast]
    rw [e0]
    have hmx : max (n : Int) 0 = n := by omega
    have hle := rdNum_le n st
    clear e0
    go_enter Try.func51, Try.ntmps51
    go_wp2_with (go_at_call 54; refine (rNum_any b st hlen n _ rfl (by omega) _ h).mono ?_; rintro e w2 ⟨rfl, h2, k2⟩)
    go_wp2
    go_ret
    exact ⟨rfl, h2, k2⟩

theorem RdAt.cell0 {b : Nat} {l : List UInt8} {w : World} (h : RdAt b (some l) w) : w.cell? ⟨b, 0, none⟩ = some (.string ⟨l.toArray⟩) := cell_at h 0 rfl

set_option maxHeartbeats 1000000 in
theorem rText_any (b : Nat) (st : Option (List UInt8)) (hlen : stLen st ≤ 1000000000) (x : Int) (hm : x ≤ 9223372036854775807) (w : World) (h : RdAt b st w) :
    Calls Try.prog 53 #[.pointer (some ⟨b, 0, none⟩), .int .i64 x] w fun e w' => e = .returned (.string ⟨(rdText x st).1.toArray⟩) ∧ RdAt b (rdText x st).2 w' ∧ Keeps (fun k => k = b) w w' := by
  have hle := rdInt_len x st
  generalize hr : rdInt x st = r at *
  obtain ⟨n, st1⟩ := r
  have Hr : Hid (rdInt x st = (n, st1)) := hr
  clear hr
  go_enter Try.func53, Try.ntmps53
  go_wp2_with fail
  refine (rInt_any b st hlen _ hm _ h).mono ?_
  rw [Hr.out]
  rintro e w1 ⟨rfl, h1, k1⟩
  replace h1 : RdAt b st1 w1 := h1
  replace hle : stLen st1 ≤ stLen st := hle
  rcases st1 with _ | l
  · have HT : Hid (rdText x st = ([], none)) := by show _ = _; rw [rdText, Hr.out]
    go_wp2_with (first | (go_at_call 55; refine (rGood_any b none _ h1).mono ?_; rintro e w' ⟨rfl, rfl⟩) | (go_at_call 64; refine (rFails_any b _ _ h1).mono ?_; rintro e w2 ⟨rfl, h2, k2⟩))
    go_ret
    rw [HT.out]
    exact ⟨rfl, h2, k1.trans k2⟩
  · have c0 := h1.cell0
    have hll : l.length ≤ 1000000000 := Nat.le_trans hle hlen
    by_cases h3 : n ≤ l.length
    · have HT : Hid (rdText x st = (l.take n, some (l.drop n))) := by show _ = _; rw [rdText, Hr.out]; exact if_pos h3
      have h3' : decide ((l.length : Int) < n) = false := by simp; omega
      go_wp2_with (first | (go_at_call 55; refine (rGood_any b (some l) _ h1).mono ?_; rintro e w' ⟨rfl, rfl⟩) | (go_at_call 68; refine (rTakes_any b l n _ rfl (by omega) h3 _ h1).mono ?_; rintro e w2 ⟨rfl, h2, k2⟩))
      go_ret
      rw [HT.out]
      exact ⟨rfl, h2, k1.trans k2⟩
    · have HT : Hid (rdText x st = ([], none)) := by show _ = _; rw [rdText, Hr.out]; exact if_neg h3
      have h3' : decide ((l.length : Int) < n) = true := by simp; omega
      go_wp2_with (first | (go_at_call 55; refine (rGood_any b (some l) _ h1).mono ?_; rintro e w' ⟨rfl, rfl⟩) | (go_at_call 64; refine (rFails_any b _ _ h1).mono ?_; rintro e w2 ⟨rfl, h2, k2⟩))
      go_ret
      rw [HT.out]
      exact ⟨rfl, h2, k1.trans k2⟩

theorem rFlag_any (b : Nat) (st : Option (List UInt8)) (hlen : stLen st ≤ 1000000000) (w : World) (h : RdAt b st w) :
    Calls Try.prog 66 #[.pointer (some ⟨b, 0, none⟩)] w fun e w' => e = .returned (.bool (rdFlag st).1) ∧ RdAt b (rdFlag st).2 w' ∧ Keeps (fun k => k = b) w w' := by
  go_enter Try.func66, Try.ntmps66
  go_wp2_with (go_at_call 54; refine (rNum_any b st hlen 1 _ rfl (by omega) _ h).mono ?_; rintro e w1 ⟨rfl, h1, k1⟩)
  go_wp2
  go_ret
  refine ⟨ret_bool ?_, h1, k1⟩
  rw [rdFlag, Bool.eq_iff_iff]
  simp only [beq_iff_eq, decide_eq_true_eq]
  omega

theorem rEnd_any (b : Nat) (st : Option (List UInt8)) (w : World) (h : RdAt b st w) :
    Calls Try.prog 67 #[.pointer (some ⟨b, 0, none⟩)] w fun e w' => e = .returned (.bool (decide (st = some []))) ∧ w = w' := by
  rcases st with _ | l
  · go_enter Try.func67, Try.ntmps67
    go_wp2_with (go_at_call 55; refine (rGood_any b none _ h).mono ?_; rintro e w' ⟨rfl, rfl⟩)
    go_ret
    exact ⟨rfl, rfl⟩
  · have c0 := h.cell0
    go_enter Try.func67, Try.ntmps67
    go_wp2_with (go_at_call 55; refine (rGood_any b (some l) _ h).mono ?_; rintro e w' ⟨rfl, rfl⟩)
    go_ret
    refine ⟨ret_bool ?_, rfl⟩
    cases l <;> simp

theorem rLeft_any (b : Nat) (st : Option (List UInt8)) (hlen : stLen st ≤ 1000000000) (w : World) (h : RdAt b st w) :
    Calls Try.prog 34 #[.pointer (some ⟨b, 0, none⟩)] w fun e w' => e = .returned (.int .i64 (stLen st)) ∧ w = w' := by
  rcases st with _ | l
  · go_enter Try.func34, Try.ntmps34
    go_wp2_with (go_at_call 55; refine (rGood_any b none _ h).mono ?_; rintro e w' ⟨rfl, rfl⟩)
    go_ret
    exact ⟨rfl, rfl⟩
  · have c0 := h.cell0
    go_enter Try.func34, Try.ntmps34
    go_wp2_with (go_at_call 55; refine (rGood_any b (some l) _ h).mono ?_; rintro e w' ⟨rfl, rfl⟩)
    go_ret
    exact ⟨rfl, rfl⟩

end Go.Proofs.Ytfpdfjbooalgjaa
