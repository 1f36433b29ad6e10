
/- The document's reader: Num at a length that fits. -/
import Derived.Test.YtfpdfjbooalgjaaRef3b
import Derived.Test.YtfpdfjbooalgjaaMem2
import Derived.Lib.Hide
namespace Go.Proofs.Ytfpdfjbooalgjaa
open Go.RowKit
set_option linter.unusedVariables false
attribute [local go_sem] str_get str_cut run_str1 str_app str_app1 str_app0

theorem mul_step (a : Nat) (c : UInt8) (h : a < 72057594037927936) : IntKind.u64.wrap (IntKind.u64.wrap ((a : Int) * 256) + IntKind.u64.wrap (c.toNat : Int)) = ((a * 256 + c.toNat : Nat) : Int) := by
  have hc := c.toNat_lt
  have e1 : IntKind.u64.wrap ((a : Int) * 256) = (a : Int) * 256 := IntWalk.u64_in _ (by omega)
  have e2 : IntKind.u64.wrap (c.toNat : Int) = (c.toNat : Int) := IntWalk.u64_in _ (by omega)
  rw [e1, e2, IntWalk.u64_in _ (by omega)]
  omega

set_option maxRecDepth 100000 in
set_option maxHeartbeats 1000000 in
theorem qNum_val (b : Nat) (k : UInt8) (t : List UInt8) (most : Nat) (x : Int) (hx : x = most) (hm : most < 18446744073709551616) (hk : k.toNat ≤ 8) (hk2 : k.toNat ≤ t.length) (hlen : t.length ≤ 1000000000) (w : World) (h : QrAt b (some (k :: t)) w) :
    Calls Try.prog 59 #[.pointer (some ⟨b, 0, none⟩), .int .u64 x] w fun e w' => e = .returned (.int .u64 (rdNum most (some (k :: t))).1) ∧ QrAt b (rdNum most (some (k :: t))).2 w' ∧ Keeps (fun k => k = b) w w' := by
  have hfit : ¬ (8 < k.toNat ∨ t.length < k.toNat) := by omega
  have hbad : most < beval (t.take k.toNat) ∨ encNum (beval (t.take k.toNat)) ≠ k :: t.take k.toNat → rdNum most (some (k :: t)) = (0, none) := by
    intro hx
    simp only [rdNum, decNum, if_neg hfit]
    rw [if_pos]
    rcases hx with hx | hx
    · exact .inr hx
    · refine Classical.byContradiction fun hn => hx ?_
      have hz : (t.take k.toNat).head? ≠ some 0 := fun y => hn (.inl y)
      rw [encNum, beb_beval _ hz, List.length_take, Nat.min_eq_left hk2]
      simp
  have hgood : ¬ (most < beval (t.take k.toNat)) → encNum (beval (t.take k.toNat)) = k :: t.take k.toNat → rdNum most (some (k :: t)) = (beval (t.take k.toNat), some (t.drop k.toNat)) := by
    intro h1 h2
    have h3 := decNum_enc (most := most) (n := beval (t.take k.toNat)) (t.drop k.toNat) (by omega) (by omega)
    rw [h2, List.cons_append, List.take_append_drop] at h3
    simp only [rdNum, h3]
  have HB := Lib.hid hbad
  have HG := Lib.hid hgood
  clear hbad hgood hfit
  subst hx
  have c1 : w.cell? ⟨b, 1, none⟩ = some (.bool false) := h.cell1
  have c0 := h.cell0
  have f1 := h.free 1
  have f0 := h.free 0
  have hk' : decide ((8 : Int) < k.toNat) = false := by simp; omega
  have hl0 : ((t.length : Int) + 1 == 0) = false := by simp; omega
  have hw : IntKind.i64.wrap (k.toNat : Int) = k.toNat := IntWalk.i64_in _ (by omega)
  have hw2 : IntKind.i64.wrap (1 + (k.toNat : Int)) = 1 + k.toNat := IntWalk.i64_in _ (by omega)
  have hk3 : decide ((t.length : Int) + 1 < 1 + k.toNat) = false := by simp; omega
  go_enter Try.func59, Try.ntmps59
  go_wp2_with fail
  go_quiet (fail)
  clear hw hw2
  have c0 : (w.drewN nq).cell? ⟨b, 0, none⟩ = some (.string ⟨(k :: t).toArray⟩) := c0
  have c1 : (w.drewN nq).cell? ⟨b, 1, none⟩ = some (.bool false) := c1
  have f1 : (w.drewN nq).frozen? ⟨b, 1, none⟩ = false := f1
  have f0 : (w.drewN nq).frozen? ⟨b, 0, none⟩ = false := f0
  have hQ : QrAt b (some (k :: t)) (w.drewN nq) := h.drewN nq
  have hK : Keeps (fun k => k = b) w (w.drewN nq) := (Keeps.refl _ w).drewN nq
  generalize hwq : w.drewN nq = wq at *
  clear hwq
  go_wp2_with fail
  go_loopw [6, 7] (fun nv iv wr => ∃ i : Nat, i ≤ k.toNat ∧ nv = .int .u64 (beval (t.take i)) ∧ iv = .int .i64 (i + 1 : Nat) ∧ wq = wr) (fun _ iv _ => k.toNat + 1 - (intOf iv).toNat)
  case atStart => exact ⟨0, by omega, rfl, rfl, rfl⟩
  case round =>
    obtain ⟨i, hi, rfl, rfl, rfl⟩ := hrel
    by_cases hlt : i < k.toNat
    · have hil : i < t.length := by omega
      go_wp2
      go_roundw
      case rel =>
        refine ⟨i + 1, by omega, ?_, by go_num, trivial⟩
        rw [beval_take_succ t i hil]
        exact congrArg _ (mul_step _ t[i] (beval_small t i (by omega)))
      case measure => simp [intOf]; omega
    · obtain rfl : i = k.toNat := by omega
      by_cases hm2 : most < beval (t.take k.toNat)
      · have hm3 : decide ((most : Int) < beval (t.take k.toNat)) = true := by simp; omega
        go_wp2_with fail
        go_quiet (fail)
        go_wp2
        go_ret
        rw [HB.out (.inl hm2)]
        exact ⟨rfl, (hQ.drewN _).bad, (hK.drewN _).setCell _ _ (fun _ => rfl)⟩
      · have hm3 : decide ((most : Int) < beval (t.take k.toNat)) = false := by simp; omega
        have hb8 : beval (t.take k.toNat) < 18446744073709551616 := by omega
        have hcut1 : (0 : Int) ≤ 1 + k.toNat := by omega
        have hcut2 : (1 + (k.toNat : Int)) ≤ t.length + 1 := by omega
        have hltq : b < wq.drew.heap.size := World.block_lt_of_cell? wq.drew _ c1
        have et : List.take (1 + (k.toNat : Int)).toNat (k :: t) = k :: t.take k.toNat := by
          rw [show (1 + (k.toNat : Int)).toNat = k.toNat + 1 from by omega, List.take_succ_cons]
        by_cases he : encNum (beval (t.take k.toNat)) = k :: t.take k.toNat
        · have HP := Lib.hid (HG.out hm2 he)
          have he3 : @BEq.beq (List UInt8) List.instBEq (encNum (beval (t.take k.toNat))) (List.take (1 + (k.toNat : Int)).toNat (k :: t)) = true := by rw [et, he]; simp
          clear he et HB HG
          go_wp2_with fail
          go_region_held3 (fun w' => w'.cell? ⟨b, 0, none⟩ = some (.string ⟨(k :: t).toArray⟩)) ((first | (go_keep; done) | exact Keeps.cell ‹Adds _ _› (by assumption) id)) (first | (go_at_call 50; refine (qNumS_any (beval (t.take k.toNat)) _ rfl hb8 _).mono ?_; rintro e w3 ⟨rfl, k3⟩))
          clear hcut1 hcut2
          have q1 : w3.cell? ⟨b, 1, none⟩ = some (.bool false) := Keeps.cell k3 c1 id
          have q3 : w3.frozen? ⟨b, 0, none⟩ = false := (Keeps.frozen k3 (p := ⟨b, 0, none⟩) hltq id).trans f0
          have hQ3 : QrAt b (some (k :: t)) w3 := (hQ.drewN 1).keeps k3 id
          have hK3 : Keeps (fun k => k = b) w w3 := hK.drew.trans (k3.any _)
          go_wp2
          go_ret
          rw [HP.out]
          refine ⟨rfl, ?_, hK3.setCell _ _ (fun _ => rfl)⟩
          show (World.setCell _ _ _).heap[b]? = _
          rw [heap_set_same hQ3]
          simp
          rw [Nat.add_comm 1, List.drop_succ_cons]
        · have HP := Lib.hid (HB.out (.inr he))
          have he3 : @BEq.beq (List UInt8) List.instBEq (encNum (beval (t.take k.toNat))) (List.take (1 + (k.toNat : Int)).toNat (k :: t)) = false := by rw [et]; simpa using he
          clear he et HB HG
          go_wp2_with fail
          go_region_held3 (fun w' => w'.cell? ⟨b, 0, none⟩ = some (.string ⟨(k :: t).toArray⟩)) ((first | (go_keep; done) | exact Keeps.cell ‹Adds _ _› (by assumption) id)) (first | (go_at_call 50; refine (qNumS_any (beval (t.take k.toNat)) _ rfl hb8 _).mono ?_; rintro e w3 ⟨rfl, k3⟩))
          clear hcut1 hcut2
          have q1 : w3.cell? ⟨b, 1, none⟩ = some (.bool false) := Keeps.cell k3 c1 id
          have q2 : w3.frozen? ⟨b, 1, none⟩ = false := (Keeps.frozen k3 (p := ⟨b, 1, none⟩) hltq id).trans f1
          have hQ3 : QrAt b (some (k :: t)) w3 := (hQ.drewN 1).keeps k3 id
          have hK3 : Keeps (fun k => k = b) w w3 := hK.drew.trans (k3.any _)
          go_wp2
          go_ret
          rw [HP.out]
          exact ⟨rfl, hQ3.bad, hK3.setCell _ _ (fun _ => rfl)⟩

end Go.Proofs.Ytfpdfjbooalgjaa
