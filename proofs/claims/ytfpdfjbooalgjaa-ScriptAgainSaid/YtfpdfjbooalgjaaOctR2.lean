
/- octet.Reader.Num at a length that fits. -/
import Derived.Test.YtfpdfjbooalgjaaOctR
import Derived.Laws.BitsAllLaws
namespace Go.Proofs.Ytfpdfjbooalgjaa
open Go.RowKit
set_option linter.unusedVariables false
attribute [local go_sem] str_get str_cut

theorem or_step (a : Nat) (c : UInt8) (h : a < 72057594037927936) : bits BinOp.or IntKind.u64 (IntKind.u64.wrap ((a : Int) * 256)) (IntKind.u64.wrap (c.toNat : Int)) = ((a * 256 + c.toNat : Nat) : Int) := by
  have hc := c.toNat_lt
  have e1 : IntKind.u64.wrap ((a : Int) * 256) = ((a * 256 : Nat) : Int) := by
    rw [show ((a * 256 : Nat) : Int) = (a : Int) * 256 from by omega]
    exact IntWalk.u64_in _ (by omega)
  have e2 : IntKind.u64.wrap (c.toNat : Int) = (c.toNat : Int) := IntWalk.u64_in _ (by omega)
  rw [e1, e2, u64_or_nat _ _ (by omega) (by omega), nat_join 8 _ _ (by omega) (by omega)]

theorem beval_take_succ (t : List UInt8) (i : Nat) (h : i < t.length) : beval (t.take (i + 1)) = beval (t.take i) * 256 + t[i].toNat := by
  rw [List.take_add_one, List.getElem?_eq_getElem h]
  exact beval_snoc _ _

theorem beval_small (t : List UInt8) (i : Nat) (h : i < 8) : beval (t.take i) < 72057594037927936 := by
  have := beval_lt (t.take i)
  have h2 : 256 ^ (t.take i).length ≤ 256 ^ 7 := Nat.pow_le_pow_right (by omega) (by rw [List.length_take]; omega)
  exact Nat.lt_of_lt_of_le this h2

set_option maxRecDepth 100000 in
set_option maxHeartbeats 1000000 in
theorem rNum_zero (b : Nat) (k : UInt8) (t : List UInt8) (x : Int) (hk : k.toNat ≤ 8) (hk1 : 1 ≤ k.toNat) (hk2 : k.toNat ≤ t.length + 1) (hlen : t.length ≤ 1000000000) (w : World) (h : RdAt b (some (k :: 0 :: t)) w) :
    Calls Try.prog 54 #[.pointer (some ⟨b, 0, none⟩), .int .u64 x] w fun e w' => e = .returned (.int .u64 0) ∧ RdAt b none w' ∧ Keeps (fun k => k = b) w w' := by
  have c0 : w.cell? ⟨b, 0, none⟩ = some (.string ⟨(k :: 0 :: t).toArray⟩) := cell_at h 0 rfl
  have hk' : decide ((8 : Int) < k.toNat) = false := by simp; omega
  have hk3 : decide ((t.length : Int) + 1 + 1 ≤ k.toNat) = false := by simp; omega
  have hw : IntKind.i64.wrap (k.toNat : Int) = k.toNat := IntWalk.i64_in _ (by omega)
  go_enter Try.func54, Try.ntmps54
  go_wp2_with fail
  go_step3
  go_wp2_with fail
  go_quiet ((go_at_call 55; exact rGood_q b _ w _ true rfl h))
  clear c0 hw
  go_wp2_with (go_at_call 68; refine (rTakes_any b (k :: 0 :: t) 1 _ rfl (by simp; omega) (by simp) _ (h.drewN nq)).mono ?_)
  rintro e w1 ⟨rfl, h1, k1⟩
  simp only [List.take_succ_cons, List.take_zero, List.drop_succ_cons, List.drop_zero] at h1 ⊢
  have c1 : w1.cell? ⟨b, 0, none⟩ = some (.string ⟨(0 :: t).toArray⟩) := cell_at h1 0 rfl
  go_wp2_with fail
  go_step3
  go_wp2_with fail
  go_loopw [6, 7, 47] (fun nv _ iv wr => nv = .int .u64 0 ∧ iv = .int .i64 0 ∧ w1 = wr) (fun _ _ _ _ => 0)
  case atStart => exact ⟨rfl, rfl, rfl⟩
  case round =>
    obtain ⟨rfl, rfl, rfl⟩ := hrel
    have hlt : (0 : Int) < k.toNat := by omega
    go_wp2_with (go_at_call 64; refine (rFails_any b _ _ h1).mono ?_)
    rintro e w2 ⟨rfl, h2, k2⟩
    have c2 := h2.cell1
    go_wp2_with (go_at_call 64; refine (rFails_any b _ _ h2).mono ?_)
    rintro e w3 ⟨rfl, h3, k3⟩
    go_wp2
    rw [Exit.noGoto_ret]
    go_ret
    exact ⟨rfl, h3, (((Keeps.refl _ w).drewN nq).trans k1).trans (k2.trans k3)⟩

set_option maxRecDepth 100000 in
set_option maxHeartbeats 1000000 in
theorem rNum_val (b : Nat) (k : UInt8) (t : List UInt8) (most : Nat) (x : Int) (hx : x = most) (hm : most < 18446744073709551616) (hk : k.toNat ≤ 8) (hk2 : k.toNat ≤ t.length) (hz : (t.take k.toNat).head? ≠ some 0) (hlen : t.length ≤ 1000000000) (w : World) (h : RdAt b (some (k :: t)) w) :
    Calls Try.prog 54 #[.pointer (some ⟨b, 0, none⟩), .int .u64 x] w fun e w' =>
      e = .returned (.int .u64 (if most < beval (t.take k.toNat) then 0 else beval (t.take k.toNat))) ∧
      RdAt b (if most < beval (t.take k.toNat) then none else some (t.drop k.toNat)) w' ∧ Keeps (fun k => k = b) w w' := by
  subst hx
  have c0 : w.cell? ⟨b, 0, none⟩ = some (.string ⟨(k :: t).toArray⟩) := cell_at h 0 rfl
  have hk' : decide ((8 : Int) < k.toNat) = false := by simp; omega
  have hk3 : decide ((t.length : Int) + 1 ≤ k.toNat) = false := by simp; omega
  have hw : IntKind.i64.wrap (k.toNat : Int) = k.toNat := IntWalk.i64_in _ (by omega)
  go_enter Try.func54, Try.ntmps54
  go_wp2_with fail
  go_step3
  go_wp2_with fail
  go_quiet ((go_at_call 55; exact rGood_q b _ w _ true rfl h))
  clear c0 hw
  go_wp2_with (go_at_call 68; refine (rTakes_any b (k :: t) 1 _ rfl (by simp; omega) (by simp) _ (h.drewN nq)).mono ?_)
  rintro e w1 ⟨rfl, h1, k1⟩
  simp only [List.take_succ_cons, List.take_zero, List.drop_succ_cons, List.drop_zero] at h1 ⊢
  have c1 : w1.cell? ⟨b, 0, none⟩ = some (.string ⟨t.toArray⟩) := cell_at h1 0 rfl
  go_wp2_with fail
  go_step3
  go_wp2_with fail
  go_loopw [6, 7, 47] (fun nv _ iv wr => ∃ i : Nat, i ≤ k.toNat ∧ nv = .int .u64 (beval (t.take i)) ∧ iv = .int .i64 i ∧ w1 = wr) (fun _ _ iv _ => k.toNat - (intOf iv).toNat)
  case atStart => exact ⟨0, by omega, rfl, rfl, rfl⟩
  case round =>
    obtain ⟨i, hi, rfl, rfl, rfl⟩ := hrel
    by_cases hlt : i < k.toNat
    · have hil : i < t.length := by omega
      by_cases h0 : i = 0
      · subst h0
        have hne : ((t[0].toNat : Int) == 0) = false := by
          rw [beq_eq_false_iff_ne]
          intro e
          apply hz
          have e2 : t[0] = 0 := UInt8.toNat_inj.1 (by simpa using e)
          rw [List.head?_take, if_neg (by omega), List.head?_eq_getElem?, List.getElem?_eq_getElem hil, e2]
        go_wp2
        go_roundw
        case rel =>
          refine ⟨1, by omega, ?_, by go_num, trivial⟩
          rw [beval_take_succ t 0 hil]
          exact congrArg _ (or_step (beval []) t[0] (by rw [beval_nil]; omega))
        case measure => simp [intOf]; omega
      · go_wp2
        go_roundw
        case rel =>
          refine ⟨i + 1, by omega, ?_, by go_num, trivial⟩
          rw [beval_take_succ t i hil]
          exact congrArg _ (or_step _ t[i] (beval_small t i (by omega)))
        case measure => simp [intOf]; omega
    · obtain rfl : i = k.toNat := by omega
      have c3 : w1.cell? ⟨b, 1, none⟩ = some (.bool false) := cell_at h1 1 rfl
      by_cases hm2 : most < beval (t.take k.toNat)
      · go_wp2_with (go_at_call 64; refine (rFails_any b _ _ h1).mono ?_)
        rintro e w2 ⟨rfl, h2, k2⟩
        go_wp2
        rw [Exit.noGoto_ret]
        go_ret
        exact ⟨by rw [if_pos hm2]; rfl, by rw [if_pos hm2]; exact h2, (((Keeps.refl _ w).drewN nq).trans k1).trans k2⟩
      · go_wp2_with (go_at_call 68; refine (rTakes_any b t k.toNat _ rfl (by omega) hk2 _ h1).mono ?_)
        rintro e w2 ⟨rfl, h2, k2⟩
        go_wp2
        rw [Exit.noGoto_ret]
        go_ret
        exact ⟨by rw [if_neg hm2]; rfl, by rw [if_neg hm2]; exact h2, (((Keeps.refl _ w).drewN nq).trans k1).trans k2⟩

end Go.Proofs.Ytfpdfjbooalgjaa
