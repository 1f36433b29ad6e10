/- SvB, Ck0, Ck1, Sv8: one behind the other. -/
import Derived.Test.YtnndkgmcjbnfbaaGreatDoorPk3
namespace Go.Proofs.YtnndkgmcjbnfbaaGreatDoor
open Go.RowKit
set_option linter.unusedVariables false
set_option linter.unusedSimpArgs false
theorem neqSnap (e : Nat) (t : List UInt8) (w : World) : (binOp .neq 55 (.agg #[.int .u64 (e : Int), .string ⟨t.toArray⟩]) (.agg #[.int .u64 0, .string ⟨#[]⟩])).run Tryz.prog w = .ok (.bool (!(decide (e = 0 ∧ t = [])))) w := by
  by_cases he : e = 0 <;> by_cases ht : t = [] <;> simp [go_sem, he, ht]
theorem neqSnap0 (w : World) : (binOp .neq 55 (.agg #[.int .u64 0, .string ⟨#[]⟩]) (.agg #[.int .u64 0, .string ⟨#[]⟩])).run Tryz.prog w = .ok (.bool false) w := by
  simp [go_sem]
set_option maxRecDepth 100000 in
set_option maxHeartbeats 4000000 in
theorem svRead_ok {S : Nat → Prop} {b dk : Nat} {d : GDisk} {at_ k : Int} {v3 v4 v5 : Value} {w : World} (hb : w.heap[b]? = some (.cells #[.pointer (some ⟨dk, 0, none⟩), .int .i64 at_, .int .i64 k, v3, v4, v5] 81 (0, 0))) (hd : DiskAt S dk d w) (hnb : ¬ S b) {r0 r1 : SvR} (a0 : 0 ≤ at_) (a1 : at_ ≤ 1024) (k0 : 0 ≤ k) (k1 : k ≤ 64) (sA : slotGo (at_ + 0) k.toNat 0 true 0 [] 0 d = r0) (sB : slotGo (at_ + k) k.toNat 0 true 0 [] r0.nw r0.d = r1) (bA : r0.bad = 0) (bB : r1.bad = 0) : Calls Tryz.prog 23 #[.pointer (some ⟨b, 0, none⟩)] w fun e w' => e = .returned (.tuple #[.agg #[.int .u64 ((pickE r0 r1 : Nat) : Int), .string ⟨(pickT r0 r1).toArray⟩], .bool (decide (¬ pickE r0 r1 = 0)), .int .i64 0]) ∧ w'.heap[b]? = some (.cells #[.pointer (some ⟨dk, 0, none⟩), .int .i64 at_, .int .i64 k, .bool true, .int .u64 ((r1.nw : Nat) : Int), .int .i64 (pickL r0 r1)] 81 (0, 0)) ∧ DiskAt S dk (r1.d) w' ∧ Keeps (fun k => k = b ∨ S k) w w' := by
  have K : Keeps (fun k => k = b ∨ S k) w w := Keeps.refl _ w
  have lk0 : ∀ k, S k → S k ∨ w.heap.size ≤ k := fun k h => .inl h
  have h1 : ((SvR.bad r0) != 0) = false := (by rw [bA]; rfl)
  have ph1 := of_bne_false h1
  have h2 : ((SvR.bad r1) != 0) = false := (by rw [bB]; rfl)
  have ph2 := of_bne_false h2
  refine Calls.start Tryz.func23 rfl (by kernel_rfl) ?_
  refine WC.seq ?_
  refine WC.region ?_
  refine WL.new (d := 2) (T := 55) #[.int .u64 0, .string ⟨#[]⟩] (k := fun b3 w4 g5 hb6 k7 => ?_)
  have z8 := Nat.le_trans K.size g5
  have n9 : b ≠ b3 := Nat.ne_of_lt (Nat.lt_of_lt_of_le (lt_of_heap hb) g5)
  have n10 : ¬ S b3 := fun h => absurd (hd.lt _ h) (Nat.not_lt.2 g5)
  replace hb := k7.heap hb id
  replace hd := hd.adds k7
  replace K := K.trans (k7.any _)
  refine WL.op (d := 3) (.bool false) (k := ?_)
  refine WL.op (d := 4) (.int .i64 0) (k := ?_)
  refine WL.nil ?_
  refine WX.seqN ?_
  refine WC.seq ?_
  refine WC.seq ?_
  refine WC.region ?_
  refine WL.op (d := 11) (.pointer (some ⟨b, 0, none⟩)) (k := ?_)
  refine WL.op (d := 12) (.bool false) (k := ?_)
  refine WL.nil ?_
  refine WX.seqN ?_
  refine WC.condF (k := ?_)
  refine WC.skip ?_
  refine WX.seqN ?_
  refine WC.seq ?_
  refine WC.region ?_
  refine WL.op (d := 14) (.pointer (some ⟨b, 0, none⟩)) (k := ?_)
  refine WL.op (d := 15) (.pointer (some ⟨b, 0, none⟩)) (k := ?_)
  refine WL.op (d := 16) (.pointer (some ⟨b, 0, none⟩)) (k := ?_)
  refine WL.op (d := 17) (.pointer (some ⟨b, 0, none⟩)) (k := ?_)
  refine WL.op (d := 18) (.pointer (some ⟨b, 3, none⟩)) (k := ?_)
  refine WL.store (v := .bool false) (i := 3) (cs' := #[.pointer (some ⟨dk, 0, none⟩), .int .i64 at_, .int .i64 k, .bool false, v4, v5]) hb (k := fun w11 hb12 k13 => ?_)
  replace hd := hd.keeps k13 (fun i hi e => hnb (e ▸ hi))
  replace hb6 := k13.heap hb6 (Ne.symm n9)
  replace K := K.trans' k13 (fun i hi e => .inl e)
  clear hb
  refine WL.op (d := 19) (.pointer (some ⟨b, 0, none⟩)) (k := ?_)
  refine WL.op (d := 20) (.pointer (some ⟨b, 4, none⟩)) (k := ?_)
  refine WL.store (v := .int .u64 0) (i := 4) (cs' := #[.pointer (some ⟨dk, 0, none⟩), .int .i64 at_, .int .i64 k, .bool false, .int .u64 0, v5]) hb12 (k := fun w14 hb15 k16 => ?_)
  replace hd := hd.keeps k16 (fun i hi e => hnb (e ▸ hi))
  replace hb6 := k16.heap hb6 (Ne.symm n9)
  replace K := K.trans' k16 (fun i hi e => .inl e)
  clear hb12
  refine WL.op (d := 21) (.pointer (some ⟨b, 0, none⟩)) (k := ?_)
  refine WL.op (d := 22) (.pointer (some ⟨b, 5, none⟩)) (k := ?_)
  refine WL.store (v := .int .i64 (-1)) (i := 5) (cs' := #[.pointer (some ⟨dk, 0, none⟩), .int .i64 at_, .int .i64 k, .bool false, .int .u64 0, .int .i64 (-1)]) hb15 (k := fun w17 hb18 k19 => ?_)
  replace hd := hd.keeps k19 (fun i hi e => hnb (e ▸ hi))
  replace hb6 := k19.heap hb6 (Ne.symm n9)
  replace K := K.trans' k19 (fun i hi e => .inl e)
  clear hb15
  refine WL.nil ?_
  refine WX.seqN ?_
  refine WC.seq ?_
  refine WC.region ?_
  refine WL.new (d := 5) (T := 55) #[.int .u64 0, .string ⟨#[]⟩] (k := fun b20 w21 g22 hb23 k24 => ?_)
  have z25 := Nat.le_trans K.size g22
  have n26 : b ≠ b20 := Nat.ne_of_lt (Nat.lt_of_lt_of_le (lt_of_heap hb18) g22)
  have n27 : ¬ S b20 := fun h => absurd (hd.lt _ h) (Nat.not_lt.2 g22)
  have n28 : b3 ≠ b20 := Nat.ne_of_lt (Nat.lt_of_lt_of_le (lt_of_heap hb6) g22)
  replace hb18 := k24.heap hb18 id
  replace hd := hd.adds k24
  replace hb6 := k24.heap hb6 id
  replace K := K.trans (k24.any _)
  refine WL.nil ?_
  refine WX.seqN ?_
  refine WC.seq ?_
  refine WC.region ?_
  refine WL.op (d := 6) (.int .i64 (-1)) (k := ?_)
  refine WL.nil ?_
  refine WX.seqN ?_
  refine WC.seq ?_
  refine WC.seq ?_
  refine WC.region ?_
  refine WL.op (d := 23) (.int .i64 0) (k := ?_)
  refine WL.nil ?_
  refine WX.seqN ?_
  refine WC.block ?_
  refine WC.rounds 2 ?_
  refine WC.seq ?_
  refine WC.region ?_
  refine WL.op (d := 24) (.bool true) (k := ?_)
  refine WL.nil ?_
  refine WX.seqN ?_
  refine WC.seq ?_
  refine WC.condT (k := ?_)
  refine WC.skip ?_
  refine WX.seqN ?_
  refine WC.seq ?_
  refine WC.block ?_
  refine WC.seq ?_
  refine WC.region ?_
  refine WL.op (d := 25) (.int .i64 0) (k := ?_)
  refine WL.op (d := 7) (.int .i64 0) (k := ?_)
  refine WL.nil ?_
  refine WX.seqN ?_
  refine WC.seq ?_
  refine WC.region ?_
  refine WL.op (d := 27) (.pointer (some ⟨b, 0, none⟩)) (k := ?_)
  refine WL.op (d := 28) (.int .i64 0) (k := ?_)
  refine WL.callG (d := 29) (f := 37) (args := #[.pointer (some ⟨b, 0, none⟩), .int .i64 0]) (svSlot_r (slot := 0) (sk := 0) (k := k) (nw := 0) (by omega) (by omega) (by omega) (by omega) (by omega) (by omega) (by omega) hb18 hd hnb (by omega) sA) (k := fun e_ w30 h_ => ?_)
  obtain ⟨rfl, hb31, hd32, k33⟩ := h_
  refine ⟨_, rfl, ?_⟩
  replace K := K.trans' k33 (fun i hi e => e.elim (fun e => .inl e) (fun e => (lk0 i e).elim (fun h => .inr h) (fun h => absurd hi (Nat.not_lt.2 h))))
  replace hb6 := k33.heap hb6 (not_or.2 ⟨Ne.symm n9, n10⟩)
  replace hb23 := k33.heap hb23 (not_or.2 ⟨Ne.symm n26, n27⟩)
  clear hb18 hd
  have rl29 := SvR.e_lt (by omega) sA
  refine WL.op (d := 26) (.tuple #[.agg #[.int .u64 ((SvR.e r0 : Nat) : Int), .string ⟨(SvR.t r0).toArray⟩], .int .i64 (SvR.bad r0)]) (k := ?_)
  refine WL.op (d := 30) (.agg #[.int .u64 ((SvR.e r0 : Nat) : Int), .string ⟨(SvR.t r0).toArray⟩]) (k := ?_)
  refine WL.op (d := 31) (.int .i64 (SvR.bad r0)) (k := ?_)
  refine WL.new (d := 8) (T := 55) #[.int .u64 0, .string ⟨#[]⟩] (k := fun b34 w35 g36 hb37 k38 => ?_)
  have z39 := Nat.le_trans K.size g36
  have n40 : b ≠ b34 := Nat.ne_of_lt (Nat.lt_of_lt_of_le (lt_of_heap hb31) g36)
  have n41 : ¬ S b34 := fun h => absurd (hd32.lt _ h) (Nat.not_lt.2 g36)
  have n42 : b3 ≠ b34 := Nat.ne_of_lt (Nat.lt_of_lt_of_le (lt_of_heap hb6) g36)
  have n43 : b20 ≠ b34 := Nat.ne_of_lt (Nat.lt_of_lt_of_le (lt_of_heap hb23) g36)
  replace hb31 := k38.heap hb31 id
  replace hd32 := hd32.adds k38
  replace hb6 := k38.heap hb6 id
  replace hb23 := k38.heap hb23 id
  replace K := K.trans (k38.any _)
  refine WL.store (v := .agg #[.int .u64 ((SvR.e r0 : Nat) : Int), .string ⟨(SvR.t r0).toArray⟩]) (i := 0) (cs' := #[.int .u64 ((SvR.e r0 : Nat) : Int), .string ⟨(SvR.t r0).toArray⟩]) hb37 (k := fun w44 hb45 k46 => ?_)
  replace hb31 := k46.heap hb31 n40
  replace hd32 := hd32.keeps k46 (fun i hi e => n41 (e ▸ hi))
  replace hb6 := k46.heap hb6 n42
  replace hb23 := k46.heap hb23 n43
  replace K := K.trans' k46 (fun i hi e => absurd (e ▸ hi) (Nat.not_lt.2 z39))
  clear hb37
  refine WL.op (d := 9) (.int .i64 (SvR.bad r0)) (k := ?_)
  refine WL.nil ?_
  refine WX.seqN ?_
  refine WC.seq ?_
  refine WC.seq ?_
  refine WC.region ?_
  refine WL.op (d := 32) (.int .i64 (SvR.bad r0)) (k := ?_)
  refine WL.op (d := 33) (.bool ((SvR.bad r0) != 0)) (k := ?_)
  refine WL.nil ?_
  refine WX.seqN ?_
  refine WC.rw (t := 33) (v := .bool false) (congrArg Value.bool h1) (k := ?_)
  refine WC.condF (k := ?_)
  refine WC.skip ?_
  refine WX.seqN ?_
  refine WC.seq ?_
  refine WC.region ?_
  refine WL.op (d := 39) (.pointer (some ⟨b34, 0, none⟩)) (k := ?_)
  refine WL.load (v := .int .u64 ((SvR.e r0 : Nat) : Int)) (ld1 (T := 41) (i := 0) hb45) (k := ?_)
  refine WL.op (d := 41) (.bool (((SvR.e r0 : Nat) : Int) != 0)) (k := ?_)
  refine WL.op (d := 42) (.bool (((SvR.e r0 : Nat) : Int) != 0)) (k := ?_)
  refine bsplit (((SvR.e r0 : Nat) : Int) != 0) (fun h47 => ?_) (fun h47 => ?_)
  · have ph47 := bne_iff_ne.1 h47
    refine WL.rw (t := 42) (v := .bool true) (congrArg Value.bool h47) (k := ?_)
    refine WL.op (d := 43) (.pointer (some ⟨b34, 0, none⟩)) (k := ?_)
    refine WL.load (v := .int .u64 ((SvR.e r0 : Nat) : Int)) (ld1 (T := 41) (i := 0) hb45) (k := ?_)
    refine WL.op (d := 45) (.pointer (some ⟨b20, 0, none⟩)) (k := ?_)
    refine WL.load (v := .int .u64 0) (ld1 (T := 41) (i := 0) hb23) (k := ?_)
    refine WL.op (d := 47) (.bool (decide (((SvR.e r0 : Nat) : Int) ≥ 0))) (k := ?_)
    refine WL.op (d := 48) (.bool (decide (((SvR.e r0 : Nat) : Int) ≥ 0))) (k := ?_)
    refine WL.nil ?_
    refine WX.seqN ?_
    refine WC.cond (b := decide (((SvR.e r0 : Nat) : Int) ≥ 0)) (ht := fun h48 => ?_) (hf := fun h48 => ?_)
    · have ph48 := of_decide_eq_true h48
      refine WC.region ?_
      refine WL.load (v := .agg #[.int .u64 ((SvR.e r0 : Nat) : Int), .string ⟨(SvR.t r0).toArray⟩]) (ldN (T := 55) (i := 0) (m := 2) (l := [.int .u64 ((SvR.e r0 : Nat) : Int), .string ⟨(SvR.t r0).toArray⟩]) hb45) (k := ?_)
      refine WL.op (d := 50) (.int .i64 0) (k := ?_)
      refine WL.store (v := .agg #[.int .u64 ((SvR.e r0 : Nat) : Int), .string ⟨(SvR.t r0).toArray⟩]) (i := 0) (cs' := #[.int .u64 ((SvR.e r0 : Nat) : Int), .string ⟨(SvR.t r0).toArray⟩]) hb23 (k := fun w49 hb50 k51 => ?_)
      replace hb31 := k51.heap hb31 n26
      replace hd32 := hd32.keeps k51 (fun i hi e => n27 (e ▸ hi))
      replace hb6 := k51.heap hb6 n28
      replace hb45 := k51.heap hb45 (Ne.symm n43)
      replace K := K.trans' k51 (fun i hi e => absurd (e ▸ hi) (Nat.not_lt.2 z25))
      clear hb23
      refine WL.op (d := 6) (.int .i64 0) (k := ?_)
      refine WL.nil ?_
      refine WX.blockN ?_
      refine WX.seqN ?_
      refine WC.region ?_
      refine WL.op (d := 51) (.int .i64 1) (k := ?_)
      refine WL.op (d := 23) (.int .i64 1) (k := ?_)
      refine WL.nil ?_
      refine WX.more ?_
      refine WC.seq ?_
      refine WC.region ?_
      refine WL.op (d := 24) (.bool true) (k := ?_)
      refine WL.nil ?_
      refine WX.seqN ?_
      refine WC.seq ?_
      refine WC.condT (k := ?_)
      refine WC.skip ?_
      refine WX.seqN ?_
      refine WC.seq ?_
      refine WC.block ?_
      refine WC.seq ?_
      refine WC.region ?_
      refine WL.op (d := 25) (.int .i64 1) (k := ?_)
      refine WL.op (d := 7) (.int .i64 1) (k := ?_)
      refine WL.nil ?_
      refine WX.seqN ?_
      refine WC.seq ?_
      refine WC.region ?_
      refine WL.op (d := 27) (.pointer (some ⟨b, 0, none⟩)) (k := ?_)
      refine WL.op (d := 28) (.int .i64 1) (k := ?_)
      refine WL.callG (d := 29) (f := 37) (args := #[.pointer (some ⟨b, 0, none⟩), .int .i64 1]) (svSlot_r (slot := 1) (sk := k) (k := k) (nw := SvR.nw r0) (by omega) (by omega) (by omega) (by omega) (by omega) (by omega) (by omega) hb31 hd32 hnb (by omega) sB) (k := fun e_ w53 h_ => ?_)
      obtain ⟨rfl, hb54, hd55, k56⟩ := h_
      refine ⟨_, rfl, ?_⟩
      replace K := K.trans' k56 (fun i hi e => e.elim (fun e => .inl e) (fun e => (lk0 i e).elim (fun h => .inr h) (fun h => absurd hi (Nat.not_lt.2 h))))
      replace hb6 := k56.heap hb6 (not_or.2 ⟨Ne.symm n9, n10⟩)
      replace hb50 := k56.heap hb50 (not_or.2 ⟨Ne.symm n26, n27⟩)
      replace hb45 := k56.heap hb45 (not_or.2 ⟨Ne.symm n40, n41⟩)
      clear hb31 hd32
      have rl52 := SvR.e_lt (by omega) sB
      refine WL.op (d := 26) (.tuple #[.agg #[.int .u64 ((SvR.e r1 : Nat) : Int), .string ⟨(SvR.t r1).toArray⟩], .int .i64 (SvR.bad r1)]) (k := ?_)
      refine WL.op (d := 30) (.agg #[.int .u64 ((SvR.e r1 : Nat) : Int), .string ⟨(SvR.t r1).toArray⟩]) (k := ?_)
      refine WL.op (d := 31) (.int .i64 (SvR.bad r1)) (k := ?_)
      refine WL.new (d := 8) (T := 55) #[.int .u64 0, .string ⟨#[]⟩] (k := fun b57 w58 g59 hb60 k61 => ?_)
      have z62 := Nat.le_trans K.size g59
      have n63 : b ≠ b57 := Nat.ne_of_lt (Nat.lt_of_lt_of_le (lt_of_heap hb54) g59)
      have n64 : ¬ S b57 := fun h => absurd (hd55.lt _ h) (Nat.not_lt.2 g59)
      have n65 : b3 ≠ b57 := Nat.ne_of_lt (Nat.lt_of_lt_of_le (lt_of_heap hb6) g59)
      have n66 : b20 ≠ b57 := Nat.ne_of_lt (Nat.lt_of_lt_of_le (lt_of_heap hb50) g59)
      have n67 : b34 ≠ b57 := Nat.ne_of_lt (Nat.lt_of_lt_of_le (lt_of_heap hb45) g59)
      replace hb54 := k61.heap hb54 id
      replace hd55 := hd55.adds k61
      replace hb6 := k61.heap hb6 id
      replace hb50 := k61.heap hb50 id
      replace hb45 := k61.heap hb45 id
      replace K := K.trans (k61.any _)
      refine WL.store (v := .agg #[.int .u64 ((SvR.e r1 : Nat) : Int), .string ⟨(SvR.t r1).toArray⟩]) (i := 0) (cs' := #[.int .u64 ((SvR.e r1 : Nat) : Int), .string ⟨(SvR.t r1).toArray⟩]) hb60 (k := fun w68 hb69 k70 => ?_)
      replace hb54 := k70.heap hb54 n63
      replace hd55 := hd55.keeps k70 (fun i hi e => n64 (e ▸ hi))
      replace hb6 := k70.heap hb6 n65
      replace hb50 := k70.heap hb50 n66
      replace hb45 := k70.heap hb45 n67
      replace K := K.trans' k70 (fun i hi e => absurd (e ▸ hi) (Nat.not_lt.2 z62))
      clear hb60
      refine WL.op (d := 9) (.int .i64 (SvR.bad r1)) (k := ?_)
      refine WL.nil ?_
      refine WX.seqN ?_
      refine WC.seq ?_
      refine WC.seq ?_
      refine WC.region ?_
      refine WL.op (d := 32) (.int .i64 (SvR.bad r1)) (k := ?_)
      refine WL.op (d := 33) (.bool ((SvR.bad r1) != 0)) (k := ?_)
      refine WL.nil ?_
      refine WX.seqN ?_
      refine WC.rw (t := 33) (v := .bool false) (congrArg Value.bool h2) (k := ?_)
      refine WC.condF (k := ?_)
      refine WC.skip ?_
      refine WX.seqN ?_
      refine WC.seq ?_
      refine WC.region ?_
      refine WL.op (d := 39) (.pointer (some ⟨b57, 0, none⟩)) (k := ?_)
      refine WL.load (v := .int .u64 ((SvR.e r1 : Nat) : Int)) (ld1 (T := 41) (i := 0) hb69) (k := ?_)
      refine WL.op (d := 41) (.bool (((SvR.e r1 : Nat) : Int) != 0)) (k := ?_)
      refine WL.op (d := 42) (.bool (((SvR.e r1 : Nat) : Int) != 0)) (k := ?_)
      refine bsplit (((SvR.e r1 : Nat) : Int) != 0) (fun h71 => ?_) (fun h71 => ?_)
      · have ph71 := bne_iff_ne.1 h71
        refine WL.rw (t := 42) (v := .bool true) (congrArg Value.bool h71) (k := ?_)
        refine WL.op (d := 43) (.pointer (some ⟨b57, 0, none⟩)) (k := ?_)
        refine WL.load (v := .int .u64 ((SvR.e r1 : Nat) : Int)) (ld1 (T := 41) (i := 0) hb69) (k := ?_)
        refine WL.op (d := 45) (.pointer (some ⟨b20, 0, none⟩)) (k := ?_)
        refine WL.load (v := .int .u64 ((SvR.e r0 : Nat) : Int)) (ld1 (T := 41) (i := 0) hb50) (k := ?_)
        refine WL.op (d := 47) (.bool (decide (((SvR.e r1 : Nat) : Int) ≥ ((SvR.e r0 : Nat) : Int)))) (k := ?_)
        refine WL.op (d := 48) (.bool (decide (((SvR.e r1 : Nat) : Int) ≥ ((SvR.e r0 : Nat) : Int)))) (k := ?_)
        refine WL.nil ?_
        refine WX.seqN ?_
        refine WC.cond (b := decide (((SvR.e r1 : Nat) : Int) ≥ ((SvR.e r0 : Nat) : Int))) (ht := fun h72 => ?_) (hf := fun h72 => ?_)
        · have ph72 := of_decide_eq_true h72
          refine WC.region ?_
          refine WL.load (v := .agg #[.int .u64 ((SvR.e r1 : Nat) : Int), .string ⟨(SvR.t r1).toArray⟩]) (ldN (T := 55) (i := 0) (m := 2) (l := [.int .u64 ((SvR.e r1 : Nat) : Int), .string ⟨(SvR.t r1).toArray⟩]) hb69) (k := ?_)
          refine WL.op (d := 50) (.int .i64 1) (k := ?_)
          refine WL.store (v := .agg #[.int .u64 ((SvR.e r1 : Nat) : Int), .string ⟨(SvR.t r1).toArray⟩]) (i := 0) (cs' := #[.int .u64 ((SvR.e r1 : Nat) : Int), .string ⟨(SvR.t r1).toArray⟩]) hb50 (k := fun w73 hb74 k75 => ?_)
          replace hb54 := k75.heap hb54 n26
          replace hd55 := hd55.keeps k75 (fun i hi e => n27 (e ▸ hi))
          replace hb6 := k75.heap hb6 n28
          replace hb45 := k75.heap hb45 (Ne.symm n43)
          replace hb69 := k75.heap hb69 (Ne.symm n66)
          replace K := K.trans' k75 (fun i hi e => absurd (e ▸ hi) (Nat.not_lt.2 z25))
          clear hb50
          refine WL.op (d := 6) (.int .i64 1) (k := ?_)
          refine WL.nil ?_
          refine WX.blockN ?_
          refine WX.seqN ?_
          refine WC.region ?_
          refine WL.op (d := 51) (.int .i64 2) (k := ?_)
          refine WL.op (d := 23) (.int .i64 2) (k := ?_)
          refine WL.nil ?_
          refine WX.more ?_
          refine WC.seq ?_
          refine WC.region ?_
          refine WL.op (d := 24) (.bool false) (k := ?_)
          refine WL.nil ?_
          refine WX.seqN ?_
          refine WC.seq ?_
          refine WC.condF (k := ?_)
          refine WC.exit ?_
          refine WX.seqE ?_
          refine WX.seqE ?_
          refine WX.blockE ?_
          refine WX.seqN ?_
          refine WC.seq ?_
          refine WC.region ?_
          refine WL.op (d := 52) (.pointer (some ⟨b, 0, none⟩)) (k := ?_)
          refine WL.op (d := 53) (.pointer (some ⟨b, 0, none⟩)) (k := ?_)
          refine WL.op (d := 54) (.int .i64 1) (k := ?_)
          refine WL.op (d := 55) (.pointer (some ⟨b, 0, none⟩)) (k := ?_)
          refine WL.op (d := 56) (.pointer (some ⟨b, 3, none⟩)) (k := ?_)
          refine WL.store (v := .bool true) (i := 3) (cs' := #[.pointer (some ⟨dk, 0, none⟩), .int .i64 at_, .int .i64 k, .bool true, .int .u64 ((SvR.nw r1 : Nat) : Int), .int .i64 (-1)]) hb54 (k := fun w76 hb77 k78 => ?_)
          replace hd55 := hd55.keeps k78 (fun i hi e => hnb (e ▸ hi))
          replace hb6 := k78.heap hb6 (Ne.symm n9)
          replace hb74 := k78.heap hb74 (Ne.symm n26)
          replace hb45 := k78.heap hb45 (Ne.symm n40)
          replace hb69 := k78.heap hb69 (Ne.symm n63)
          replace K := K.trans' k78 (fun i hi e => .inl e)
          clear hb54
          refine WL.op (d := 57) (.pointer (some ⟨b, 0, none⟩)) (k := ?_)
          refine WL.op (d := 58) (.pointer (some ⟨b, 5, none⟩)) (k := ?_)
          refine WL.store (v := .int .i64 1) (i := 5) (cs' := #[.pointer (some ⟨dk, 0, none⟩), .int .i64 at_, .int .i64 k, .bool true, .int .u64 ((SvR.nw r1 : Nat) : Int), .int .i64 1]) hb77 (k := fun w79 hb80 k81 => ?_)
          replace hd55 := hd55.keeps k81 (fun i hi e => hnb (e ▸ hi))
          replace hb6 := k81.heap hb6 (Ne.symm n9)
          replace hb74 := k81.heap hb74 (Ne.symm n26)
          replace hb45 := k81.heap hb45 (Ne.symm n40)
          replace hb69 := k81.heap hb69 (Ne.symm n63)
          replace K := K.trans' k81 (fun i hi e => .inl e)
          clear hb77
          refine WL.nil ?_
          refine WX.seqN ?_
          refine WC.seq ?_
          refine WC.region ?_
          refine WL.op (d := 59) (.agg #[.int .u64 0, .string ⟨#[]⟩]) (k := ?_)
          refine WL.new (d := 10) (T := 55) #[.int .u64 0, .string ⟨#[]⟩] (k := fun b82 w83 g84 hb85 k86 => ?_)
          have z87 := Nat.le_trans K.size g84
          have n88 : b ≠ b82 := Nat.ne_of_lt (Nat.lt_of_lt_of_le (lt_of_heap hb80) g84)
          have n89 : ¬ S b82 := fun h => absurd (hd55.lt _ h) (Nat.not_lt.2 g84)
          have n90 : b3 ≠ b82 := Nat.ne_of_lt (Nat.lt_of_lt_of_le (lt_of_heap hb6) g84)
          have n91 : b20 ≠ b82 := Nat.ne_of_lt (Nat.lt_of_lt_of_le (lt_of_heap hb74) g84)
          have n92 : b34 ≠ b82 := Nat.ne_of_lt (Nat.lt_of_lt_of_le (lt_of_heap hb45) g84)
          have n93 : b57 ≠ b82 := Nat.ne_of_lt (Nat.lt_of_lt_of_le (lt_of_heap hb69) g84)
          replace hb80 := k86.heap hb80 id
          replace hd55 := hd55.adds k86
          replace hb6 := k86.heap hb6 id
          replace hb74 := k86.heap hb74 id
          replace hb45 := k86.heap hb45 id
          replace hb69 := k86.heap hb69 id
          replace K := K.trans (k86.any _)
          refine WL.store (v := .agg #[.int .u64 0, .string ⟨#[]⟩]) (i := 0) (cs' := #[.int .u64 0, .string ⟨#[]⟩]) hb85 (k := fun w94 hb95 k96 => ?_)
          replace hb80 := k96.heap hb80 n88
          replace hd55 := hd55.keeps k96 (fun i hi e => n89 (e ▸ hi))
          replace hb6 := k96.heap hb6 n90
          replace hb74 := k96.heap hb74 n91
          replace hb45 := k96.heap hb45 n92
          replace hb69 := k96.heap hb69 n93
          replace K := K.trans' k96 (fun i hi e => absurd (e ▸ hi) (Nat.not_lt.2 z87))
          clear hb85
          refine WL.nil ?_
          refine WX.seqN ?_
          refine WC.seq ?_
          refine WC.mixed (fun k => k = b3) 6 (k := fun w97 k98 => ?_)
          replace hb80 := k98.heap hb80 id
          replace hd55 := hd55.adds k98
          replace hb6 := k98.heap hb6 id
          replace hb74 := k98.heap hb74 id
          replace hb45 := k98.heap hb45 id
          replace hb69 := k98.heap hb69 id
          replace hb95 := k98.heap hb95 id
          replace K := K.trans (k98.any _)
          have KC := Keeps.refl (fun k => k = b3) w97
          have bh99 := hb80
          have bh100 := hb6
          have bh101 := hb74
          have bh102 := hb45
          have bh103 := hb69
          have bh104 := hb95
          have Kb := K
          refine WA.quietR 0 (d := 60) (.agg #[.int .u64 ((SvR.e r1 : Nat) : Int), .string ⟨(SvR.t r1).toArray⟩]) KC (exec_load (fun w_ k_ => ldN (T := 55) (i := 0) (m := 2) (l := [.int .u64 ((SvR.e r1 : Nat) : Int), .string ⟨(SvR.t r1).toArray⟩]) (k_.heap bh101 (Ne.symm n28)))) (hi := rfl) (k := ?_)
          refine WA.quietR 1 (d := 61) (.agg #[.int .u64 ((SvR.e r1 : Nat) : Int), .string ⟨(SvR.t r1).toArray⟩]) KC (exec_load (fun w_ k_ => ldN (T := 55) (i := 0) (m := 2) (l := [.int .u64 ((SvR.e r1 : Nat) : Int), .string ⟨(SvR.t r1).toArray⟩]) (k_.heap bh101 (Ne.symm n28)))) (hi := rfl) (k := ?_)
          refine WA.quietR 2 (d := 62) (.agg #[.int .u64 0, .string ⟨#[]⟩]) KC (exec_load (fun w_ k_ => ldN (T := 55) (i := 0) (m := 2) (l := [.int .u64 0, .string ⟨#[]⟩]) (k_.heap bh104 (Ne.symm n90)))) (hi := rfl) (k := ?_)
          refine WA.quietR 3 (d := 63) (.bool (!(decide (SvR.e r1 = 0 ∧ SvR.t r1 = [])))) KC (exec_bin (fun w_ => neqSnap (SvR.e r1) (SvR.t r1) w_)) (hi := rfl) (k := ?_)
          refine WA.step 4 (hi := rfl) (k := ?_)
          refine WL.store (v := .agg #[.int .u64 ((SvR.e r1 : Nat) : Int), .string ⟨(SvR.t r1).toArray⟩]) (i := 0) (cs' := #[.int .u64 ((SvR.e r1 : Nat) : Int), .string ⟨(SvR.t r1).toArray⟩]) hb6 (k := fun w105 hb106 k107 => ?_)
          replace hb80 := k107.heap hb80 n9
          replace hd55 := hd55.keeps k107 (fun i hi e => n10 (e ▸ hi))
          replace hb74 := k107.heap hb74 (Ne.symm n28)
          replace hb45 := k107.heap hb45 (Ne.symm n42)
          replace hb69 := k107.heap hb69 (Ne.symm n65)
          replace hb95 := k107.heap hb95 (Ne.symm n90)
          replace K := K.trans' k107 (fun i hi e => absurd (e ▸ hi) (Nat.not_lt.2 z8))
          replace KC := KC.trans' k107 (fun i hi e => e)
          clear hb6
          refine WL.nil ?_
          refine WX.nxt KC ?_
          refine WA.quiet 5 (d := 3) (.bool (!(decide (SvR.e r1 = 0 ∧ SvR.t r1 = [])))) KC (hi := rfl) (k := ?_)
          refine WA.step 6 (hi := rfl) (k := ?_)
          refine WL.op (d := 4) (.int .i64 0) (k := ?_)
          refine WL.nil ?_
          refine WX.nxtL ?_
          refine WA.done (k := ?_)
          clear KC
          refine WX.seqN ?_
          refine WC.ret ?_
          refine WX.ret (rs := [.cell 2 55, .tmp 3, .tmp 4]) [.agg #[.int .u64 ((SvR.e r1 : Nat) : Int), .string ⟨(SvR.t r1).toArray⟩], .bool (!(decide (SvR.e r1 = 0 ∧ SvR.t r1 = []))), .int .i64 0] (.tuple #[.agg #[.int .u64 ((SvR.e r1 : Nat) : Int), .string ⟨(SvR.t r1).toArray⟩], .bool (!(decide (SvR.e r1 = 0 ∧ SvR.t r1 = []))), .int .i64 0]) ⟨⟨_, (by kernel_rfl), ldN (T := 55) (i := 0) (m := 2) (l := [.int .u64 ((SvR.e r1 : Nat) : Int), .string ⟨(SvR.t r1).toArray⟩]) hb106⟩, (by kernel_rfl), (by kernel_rfl), trivial⟩ (k := ?_)
          obtain ⟨q1_, q2_, q3_⟩ := pick_r1 (p := r0) (q := r1) (by omega) (by omega)
          rw [q1_, q2_, q3_]
          have n_ : ¬ SvR.e r1 = 0 := by omega
          exact ⟨by rw [decide_eq_true n_, decide_eq_false (fun h_ => n_ h_.1)]; rfl, hb80, hd55, K⟩
        · have ph72 := of_decide_eq_false h72
          refine WC.skip ?_
          refine WX.blockN ?_
          refine WX.seqN ?_
          refine WC.region ?_
          refine WL.op (d := 51) (.int .i64 2) (k := ?_)
          refine WL.op (d := 23) (.int .i64 2) (k := ?_)
          refine WL.nil ?_
          refine WX.more ?_
          refine WC.seq ?_
          refine WC.region ?_
          refine WL.op (d := 24) (.bool false) (k := ?_)
          refine WL.nil ?_
          refine WX.seqN ?_
          refine WC.seq ?_
          refine WC.condF (k := ?_)
          refine WC.exit ?_
          refine WX.seqE ?_
          refine WX.seqE ?_
          refine WX.blockE ?_
          refine WX.seqN ?_
          refine WC.seq ?_
          refine WC.region ?_
          refine WL.op (d := 52) (.pointer (some ⟨b, 0, none⟩)) (k := ?_)
          refine WL.op (d := 53) (.pointer (some ⟨b, 0, none⟩)) (k := ?_)
          refine WL.op (d := 54) (.int .i64 0) (k := ?_)
          refine WL.op (d := 55) (.pointer (some ⟨b, 0, none⟩)) (k := ?_)
          refine WL.op (d := 56) (.pointer (some ⟨b, 3, none⟩)) (k := ?_)
          refine WL.store (v := .bool true) (i := 3) (cs' := #[.pointer (some ⟨dk, 0, none⟩), .int .i64 at_, .int .i64 k, .bool true, .int .u64 ((SvR.nw r1 : Nat) : Int), .int .i64 (-1)]) hb54 (k := fun w108 hb109 k110 => ?_)
          replace hd55 := hd55.keeps k110 (fun i hi e => hnb (e ▸ hi))
          replace hb6 := k110.heap hb6 (Ne.symm n9)
          replace hb50 := k110.heap hb50 (Ne.symm n26)
          replace hb45 := k110.heap hb45 (Ne.symm n40)
          replace hb69 := k110.heap hb69 (Ne.symm n63)
          replace K := K.trans' k110 (fun i hi e => .inl e)
          clear hb54
          refine WL.op (d := 57) (.pointer (some ⟨b, 0, none⟩)) (k := ?_)
          refine WL.op (d := 58) (.pointer (some ⟨b, 5, none⟩)) (k := ?_)
          refine WL.store (v := .int .i64 0) (i := 5) (cs' := #[.pointer (some ⟨dk, 0, none⟩), .int .i64 at_, .int .i64 k, .bool true, .int .u64 ((SvR.nw r1 : Nat) : Int), .int .i64 0]) hb109 (k := fun w111 hb112 k113 => ?_)
          replace hd55 := hd55.keeps k113 (fun i hi e => hnb (e ▸ hi))
          replace hb6 := k113.heap hb6 (Ne.symm n9)
          replace hb50 := k113.heap hb50 (Ne.symm n26)
          replace hb45 := k113.heap hb45 (Ne.symm n40)
          replace hb69 := k113.heap hb69 (Ne.symm n63)
          replace K := K.trans' k113 (fun i hi e => .inl e)
          clear hb109
          refine WL.nil ?_
          refine WX.seqN ?_
          refine WC.seq ?_
          refine WC.region ?_
          refine WL.op (d := 59) (.agg #[.int .u64 0, .string ⟨#[]⟩]) (k := ?_)
          refine WL.new (d := 10) (T := 55) #[.int .u64 0, .string ⟨#[]⟩] (k := fun b114 w115 g116 hb117 k118 => ?_)
          have z119 := Nat.le_trans K.size g116
          have n120 : b ≠ b114 := Nat.ne_of_lt (Nat.lt_of_lt_of_le (lt_of_heap hb112) g116)
          have n121 : ¬ S b114 := fun h => absurd (hd55.lt _ h) (Nat.not_lt.2 g116)
          have n122 : b3 ≠ b114 := Nat.ne_of_lt (Nat.lt_of_lt_of_le (lt_of_heap hb6) g116)
          have n123 : b20 ≠ b114 := Nat.ne_of_lt (Nat.lt_of_lt_of_le (lt_of_heap hb50) g116)
          have n124 : b34 ≠ b114 := Nat.ne_of_lt (Nat.lt_of_lt_of_le (lt_of_heap hb45) g116)
          have n125 : b57 ≠ b114 := Nat.ne_of_lt (Nat.lt_of_lt_of_le (lt_of_heap hb69) g116)
          replace hb112 := k118.heap hb112 id
          replace hd55 := hd55.adds k118
          replace hb6 := k118.heap hb6 id
          replace hb50 := k118.heap hb50 id
          replace hb45 := k118.heap hb45 id
          replace hb69 := k118.heap hb69 id
          replace K := K.trans (k118.any _)
          refine WL.store (v := .agg #[.int .u64 0, .string ⟨#[]⟩]) (i := 0) (cs' := #[.int .u64 0, .string ⟨#[]⟩]) hb117 (k := fun w126 hb127 k128 => ?_)
          replace hb112 := k128.heap hb112 n120
          replace hd55 := hd55.keeps k128 (fun i hi e => n121 (e ▸ hi))
          replace hb6 := k128.heap hb6 n122
          replace hb50 := k128.heap hb50 n123
          replace hb45 := k128.heap hb45 n124
          replace hb69 := k128.heap hb69 n125
          replace K := K.trans' k128 (fun i hi e => absurd (e ▸ hi) (Nat.not_lt.2 z119))
          clear hb117
          refine WL.nil ?_
          refine WX.seqN ?_
          refine WC.seq ?_
          refine WC.mixed (fun k => k = b3) 6 (k := fun w129 k130 => ?_)
          replace hb112 := k130.heap hb112 id
          replace hd55 := hd55.adds k130
          replace hb6 := k130.heap hb6 id
          replace hb50 := k130.heap hb50 id
          replace hb45 := k130.heap hb45 id
          replace hb69 := k130.heap hb69 id
          replace hb127 := k130.heap hb127 id
          replace K := K.trans (k130.any _)
          have KC := Keeps.refl (fun k => k = b3) w129
          have bh131 := hb112
          have bh132 := hb6
          have bh133 := hb50
          have bh134 := hb45
          have bh135 := hb69
          have bh136 := hb127
          have Kb := K
          refine WA.quietR 0 (d := 60) (.agg #[.int .u64 ((SvR.e r0 : Nat) : Int), .string ⟨(SvR.t r0).toArray⟩]) KC (exec_load (fun w_ k_ => ldN (T := 55) (i := 0) (m := 2) (l := [.int .u64 ((SvR.e r0 : Nat) : Int), .string ⟨(SvR.t r0).toArray⟩]) (k_.heap bh133 (Ne.symm n28)))) (hi := rfl) (k := ?_)
          refine WA.quietR 1 (d := 61) (.agg #[.int .u64 ((SvR.e r0 : Nat) : Int), .string ⟨(SvR.t r0).toArray⟩]) KC (exec_load (fun w_ k_ => ldN (T := 55) (i := 0) (m := 2) (l := [.int .u64 ((SvR.e r0 : Nat) : Int), .string ⟨(SvR.t r0).toArray⟩]) (k_.heap bh133 (Ne.symm n28)))) (hi := rfl) (k := ?_)
          refine WA.quietR 2 (d := 62) (.agg #[.int .u64 0, .string ⟨#[]⟩]) KC (exec_load (fun w_ k_ => ldN (T := 55) (i := 0) (m := 2) (l := [.int .u64 0, .string ⟨#[]⟩]) (k_.heap bh136 (Ne.symm n122)))) (hi := rfl) (k := ?_)
          refine WA.quietR 3 (d := 63) (.bool (!(decide (SvR.e r0 = 0 ∧ SvR.t r0 = [])))) KC (exec_bin (fun w_ => neqSnap (SvR.e r0) (SvR.t r0) w_)) (hi := rfl) (k := ?_)
          refine WA.step 4 (hi := rfl) (k := ?_)
          refine WL.store (v := .agg #[.int .u64 ((SvR.e r0 : Nat) : Int), .string ⟨(SvR.t r0).toArray⟩]) (i := 0) (cs' := #[.int .u64 ((SvR.e r0 : Nat) : Int), .string ⟨(SvR.t r0).toArray⟩]) hb6 (k := fun w137 hb138 k139 => ?_)
          replace hb112 := k139.heap hb112 n9
          replace hd55 := hd55.keeps k139 (fun i hi e => n10 (e ▸ hi))
          replace hb50 := k139.heap hb50 (Ne.symm n28)
          replace hb45 := k139.heap hb45 (Ne.symm n42)
          replace hb69 := k139.heap hb69 (Ne.symm n65)
          replace hb127 := k139.heap hb127 (Ne.symm n122)
          replace K := K.trans' k139 (fun i hi e => absurd (e ▸ hi) (Nat.not_lt.2 z8))
          replace KC := KC.trans' k139 (fun i hi e => e)
          clear hb6
          refine WL.nil ?_
          refine WX.nxt KC ?_
          refine WA.quiet 5 (d := 3) (.bool (!(decide (SvR.e r0 = 0 ∧ SvR.t r0 = [])))) KC (hi := rfl) (k := ?_)
          refine WA.step 6 (hi := rfl) (k := ?_)
          refine WL.op (d := 4) (.int .i64 0) (k := ?_)
          refine WL.nil ?_
          refine WX.nxtL ?_
          refine WA.done (k := ?_)
          clear KC
          refine WX.seqN ?_
          refine WC.ret ?_
          refine WX.ret (rs := [.cell 2 55, .tmp 3, .tmp 4]) [.agg #[.int .u64 ((SvR.e r0 : Nat) : Int), .string ⟨(SvR.t r0).toArray⟩], .bool (!(decide (SvR.e r0 = 0 ∧ SvR.t r0 = []))), .int .i64 0] (.tuple #[.agg #[.int .u64 ((SvR.e r0 : Nat) : Int), .string ⟨(SvR.t r0).toArray⟩], .bool (!(decide (SvR.e r0 = 0 ∧ SvR.t r0 = []))), .int .i64 0]) ⟨⟨_, (by kernel_rfl), ldN (T := 55) (i := 0) (m := 2) (l := [.int .u64 ((SvR.e r0 : Nat) : Int), .string ⟨(SvR.t r0).toArray⟩]) hb138⟩, (by kernel_rfl), (by kernel_rfl), trivial⟩ (k := ?_)
          obtain ⟨q1_, q2_, q3_⟩ := pick_r0 (p := r0) (q := r1) (by omega) (by omega)
          rw [q1_, q2_, q3_]
          have n_ : ¬ SvR.e r0 = 0 := by omega
          exact ⟨by rw [decide_eq_true n_, decide_eq_false (fun h_ => n_ h_.1)]; rfl, hb112, hd55, K⟩
      · have ph71 := of_bne_false h71
        refine WL.rw (t := 42) (v := .bool false) (congrArg Value.bool h71) (k := ?_)
        refine WL.skip (d := 43) (k := ?_)
        refine WL.skip (d := 44) (k := ?_)
        refine WL.skip (d := 45) (k := ?_)
        refine WL.skip (d := 46) (k := ?_)
        refine WL.skip (d := 47) (k := ?_)
        refine WL.op (d := 48) (.bool false) (k := ?_)
        refine WL.nil ?_
        refine WX.seqN ?_
        refine WC.condF (k := ?_)
        refine WC.skip ?_
        refine WX.blockN ?_
        refine WX.seqN ?_
        refine WC.region ?_
        refine WL.op (d := 51) (.int .i64 2) (k := ?_)
        refine WL.op (d := 23) (.int .i64 2) (k := ?_)
        refine WL.nil ?_
        refine WX.more ?_
        refine WC.seq ?_
        refine WC.region ?_
        refine WL.op (d := 24) (.bool false) (k := ?_)
        refine WL.nil ?_
        refine WX.seqN ?_
        refine WC.seq ?_
        refine WC.condF (k := ?_)
        refine WC.exit ?_
        refine WX.seqE ?_
        refine WX.seqE ?_
        refine WX.blockE ?_
        refine WX.seqN ?_
        refine WC.seq ?_
        refine WC.region ?_
        refine WL.op (d := 52) (.pointer (some ⟨b, 0, none⟩)) (k := ?_)
        refine WL.op (d := 53) (.pointer (some ⟨b, 0, none⟩)) (k := ?_)
        refine WL.op (d := 54) (.int .i64 0) (k := ?_)
        refine WL.op (d := 55) (.pointer (some ⟨b, 0, none⟩)) (k := ?_)
        refine WL.op (d := 56) (.pointer (some ⟨b, 3, none⟩)) (k := ?_)
        refine WL.store (v := .bool true) (i := 3) (cs' := #[.pointer (some ⟨dk, 0, none⟩), .int .i64 at_, .int .i64 k, .bool true, .int .u64 ((SvR.nw r1 : Nat) : Int), .int .i64 (-1)]) hb54 (k := fun w140 hb141 k142 => ?_)
        replace hd55 := hd55.keeps k142 (fun i hi e => hnb (e ▸ hi))
        replace hb6 := k142.heap hb6 (Ne.symm n9)
        replace hb50 := k142.heap hb50 (Ne.symm n26)
        replace hb45 := k142.heap hb45 (Ne.symm n40)
        replace hb69 := k142.heap hb69 (Ne.symm n63)
        replace K := K.trans' k142 (fun i hi e => .inl e)
        clear hb54
        refine WL.op (d := 57) (.pointer (some ⟨b, 0, none⟩)) (k := ?_)
        refine WL.op (d := 58) (.pointer (some ⟨b, 5, none⟩)) (k := ?_)
        refine WL.store (v := .int .i64 0) (i := 5) (cs' := #[.pointer (some ⟨dk, 0, none⟩), .int .i64 at_, .int .i64 k, .bool true, .int .u64 ((SvR.nw r1 : Nat) : Int), .int .i64 0]) hb141 (k := fun w143 hb144 k145 => ?_)
        replace hd55 := hd55.keeps k145 (fun i hi e => hnb (e ▸ hi))
        replace hb6 := k145.heap hb6 (Ne.symm n9)
        replace hb50 := k145.heap hb50 (Ne.symm n26)
        replace hb45 := k145.heap hb45 (Ne.symm n40)
        replace hb69 := k145.heap hb69 (Ne.symm n63)
        replace K := K.trans' k145 (fun i hi e => .inl e)
        clear hb141
        refine WL.nil ?_
        refine WX.seqN ?_
        refine WC.seq ?_
        refine WC.region ?_
        refine WL.op (d := 59) (.agg #[.int .u64 0, .string ⟨#[]⟩]) (k := ?_)
        refine WL.new (d := 10) (T := 55) #[.int .u64 0, .string ⟨#[]⟩] (k := fun b146 w147 g148 hb149 k150 => ?_)
        have z151 := Nat.le_trans K.size g148
        have n152 : b ≠ b146 := Nat.ne_of_lt (Nat.lt_of_lt_of_le (lt_of_heap hb144) g148)
        have n153 : ¬ S b146 := fun h => absurd (hd55.lt _ h) (Nat.not_lt.2 g148)
        have n154 : b3 ≠ b146 := Nat.ne_of_lt (Nat.lt_of_lt_of_le (lt_of_heap hb6) g148)
        have n155 : b20 ≠ b146 := Nat.ne_of_lt (Nat.lt_of_lt_of_le (lt_of_heap hb50) g148)
        have n156 : b34 ≠ b146 := Nat.ne_of_lt (Nat.lt_of_lt_of_le (lt_of_heap hb45) g148)
        have n157 : b57 ≠ b146 := Nat.ne_of_lt (Nat.lt_of_lt_of_le (lt_of_heap hb69) g148)
        replace hb144 := k150.heap hb144 id
        replace hd55 := hd55.adds k150
        replace hb6 := k150.heap hb6 id
        replace hb50 := k150.heap hb50 id
        replace hb45 := k150.heap hb45 id
        replace hb69 := k150.heap hb69 id
        replace K := K.trans (k150.any _)
        refine WL.store (v := .agg #[.int .u64 0, .string ⟨#[]⟩]) (i := 0) (cs' := #[.int .u64 0, .string ⟨#[]⟩]) hb149 (k := fun w158 hb159 k160 => ?_)
        replace hb144 := k160.heap hb144 n152
        replace hd55 := hd55.keeps k160 (fun i hi e => n153 (e ▸ hi))
        replace hb6 := k160.heap hb6 n154
        replace hb50 := k160.heap hb50 n155
        replace hb45 := k160.heap hb45 n156
        replace hb69 := k160.heap hb69 n157
        replace K := K.trans' k160 (fun i hi e => absurd (e ▸ hi) (Nat.not_lt.2 z151))
        clear hb149
        refine WL.nil ?_
        refine WX.seqN ?_
        refine WC.seq ?_
        refine WC.mixed (fun k => k = b3) 6 (k := fun w161 k162 => ?_)
        replace hb144 := k162.heap hb144 id
        replace hd55 := hd55.adds k162
        replace hb6 := k162.heap hb6 id
        replace hb50 := k162.heap hb50 id
        replace hb45 := k162.heap hb45 id
        replace hb69 := k162.heap hb69 id
        replace hb159 := k162.heap hb159 id
        replace K := K.trans (k162.any _)
        have KC := Keeps.refl (fun k => k = b3) w161
        have bh163 := hb144
        have bh164 := hb6
        have bh165 := hb50
        have bh166 := hb45
        have bh167 := hb69
        have bh168 := hb159
        have Kb := K
        refine WA.quietR 0 (d := 60) (.agg #[.int .u64 ((SvR.e r0 : Nat) : Int), .string ⟨(SvR.t r0).toArray⟩]) KC (exec_load (fun w_ k_ => ldN (T := 55) (i := 0) (m := 2) (l := [.int .u64 ((SvR.e r0 : Nat) : Int), .string ⟨(SvR.t r0).toArray⟩]) (k_.heap bh165 (Ne.symm n28)))) (hi := rfl) (k := ?_)
        refine WA.quietR 1 (d := 61) (.agg #[.int .u64 ((SvR.e r0 : Nat) : Int), .string ⟨(SvR.t r0).toArray⟩]) KC (exec_load (fun w_ k_ => ldN (T := 55) (i := 0) (m := 2) (l := [.int .u64 ((SvR.e r0 : Nat) : Int), .string ⟨(SvR.t r0).toArray⟩]) (k_.heap bh165 (Ne.symm n28)))) (hi := rfl) (k := ?_)
        refine WA.quietR 2 (d := 62) (.agg #[.int .u64 0, .string ⟨#[]⟩]) KC (exec_load (fun w_ k_ => ldN (T := 55) (i := 0) (m := 2) (l := [.int .u64 0, .string ⟨#[]⟩]) (k_.heap bh168 (Ne.symm n154)))) (hi := rfl) (k := ?_)
        refine WA.quietR 3 (d := 63) (.bool (!(decide (SvR.e r0 = 0 ∧ SvR.t r0 = [])))) KC (exec_bin (fun w_ => neqSnap (SvR.e r0) (SvR.t r0) w_)) (hi := rfl) (k := ?_)
        refine WA.step 4 (hi := rfl) (k := ?_)
        refine WL.store (v := .agg #[.int .u64 ((SvR.e r0 : Nat) : Int), .string ⟨(SvR.t r0).toArray⟩]) (i := 0) (cs' := #[.int .u64 ((SvR.e r0 : Nat) : Int), .string ⟨(SvR.t r0).toArray⟩]) hb6 (k := fun w169 hb170 k171 => ?_)
        replace hb144 := k171.heap hb144 n9
        replace hd55 := hd55.keeps k171 (fun i hi e => n10 (e ▸ hi))
        replace hb50 := k171.heap hb50 (Ne.symm n28)
        replace hb45 := k171.heap hb45 (Ne.symm n42)
        replace hb69 := k171.heap hb69 (Ne.symm n65)
        replace hb159 := k171.heap hb159 (Ne.symm n154)
        replace K := K.trans' k171 (fun i hi e => absurd (e ▸ hi) (Nat.not_lt.2 z8))
        replace KC := KC.trans' k171 (fun i hi e => e)
        clear hb6
        refine WL.nil ?_
        refine WX.nxt KC ?_
        refine WA.quiet 5 (d := 3) (.bool (!(decide (SvR.e r0 = 0 ∧ SvR.t r0 = [])))) KC (hi := rfl) (k := ?_)
        refine WA.step 6 (hi := rfl) (k := ?_)
        refine WL.op (d := 4) (.int .i64 0) (k := ?_)
        refine WL.nil ?_
        refine WX.nxtL ?_
        refine WA.done (k := ?_)
        clear KC
        refine WX.seqN ?_
        refine WC.ret ?_
        refine WX.ret (rs := [.cell 2 55, .tmp 3, .tmp 4]) [.agg #[.int .u64 ((SvR.e r0 : Nat) : Int), .string ⟨(SvR.t r0).toArray⟩], .bool (!(decide (SvR.e r0 = 0 ∧ SvR.t r0 = []))), .int .i64 0] (.tuple #[.agg #[.int .u64 ((SvR.e r0 : Nat) : Int), .string ⟨(SvR.t r0).toArray⟩], .bool (!(decide (SvR.e r0 = 0 ∧ SvR.t r0 = []))), .int .i64 0]) ⟨⟨_, (by kernel_rfl), ldN (T := 55) (i := 0) (m := 2) (l := [.int .u64 ((SvR.e r0 : Nat) : Int), .string ⟨(SvR.t r0).toArray⟩]) hb170⟩, (by kernel_rfl), (by kernel_rfl), trivial⟩ (k := ?_)
        obtain ⟨q1_, q2_, q3_⟩ := pick_r0 (p := r0) (q := r1) (by omega) (by omega)
        rw [q1_, q2_, q3_]
        have n_ : ¬ SvR.e r0 = 0 := by omega
        exact ⟨by rw [decide_eq_true n_, decide_eq_false (fun h_ => n_ h_.1)]; rfl, hb144, hd55, K⟩
    · have ph48 := of_decide_eq_false h48
      refine WC.skip ?_
      refine WX.blockN ?_
      refine WX.seqN ?_
      refine WC.region ?_
      refine WL.op (d := 51) (.int .i64 1) (k := ?_)
      refine WL.op (d := 23) (.int .i64 1) (k := ?_)
      refine WL.nil ?_
      refine WX.more ?_
      refine WC.seq ?_
      refine WC.region ?_
      refine WL.op (d := 24) (.bool true) (k := ?_)
      refine WL.nil ?_
      refine WX.seqN ?_
      refine WC.seq ?_
      refine WC.condT (k := ?_)
      refine WC.skip ?_
      refine WX.seqN ?_
      refine WC.seq ?_
      refine WC.block ?_
      refine WC.seq ?_
      refine WC.region ?_
      refine WL.op (d := 25) (.int .i64 1) (k := ?_)
      refine WL.op (d := 7) (.int .i64 1) (k := ?_)
      refine WL.nil ?_
      refine WX.seqN ?_
      refine WC.seq ?_
      refine WC.region ?_
      refine WL.op (d := 27) (.pointer (some ⟨b, 0, none⟩)) (k := ?_)
      refine WL.op (d := 28) (.int .i64 1) (k := ?_)
      refine WL.callG (d := 29) (f := 37) (args := #[.pointer (some ⟨b, 0, none⟩), .int .i64 1]) (svSlot_r (slot := 1) (sk := k) (k := k) (nw := SvR.nw r0) (by omega) (by omega) (by omega) (by omega) (by omega) (by omega) (by omega) hb31 hd32 hnb (by omega) sB) (k := fun e_ w173 h_ => ?_)
      obtain ⟨rfl, hb174, hd175, k176⟩ := h_
      refine ⟨_, rfl, ?_⟩
      replace K := K.trans' k176 (fun i hi e => e.elim (fun e => .inl e) (fun e => (lk0 i e).elim (fun h => .inr h) (fun h => absurd hi (Nat.not_lt.2 h))))
      replace hb6 := k176.heap hb6 (not_or.2 ⟨Ne.symm n9, n10⟩)
      replace hb23 := k176.heap hb23 (not_or.2 ⟨Ne.symm n26, n27⟩)
      replace hb45 := k176.heap hb45 (not_or.2 ⟨Ne.symm n40, n41⟩)
      clear hb31 hd32
      have rl172 := SvR.e_lt (by omega) sB
      refine WL.op (d := 26) (.tuple #[.agg #[.int .u64 ((SvR.e r1 : Nat) : Int), .string ⟨(SvR.t r1).toArray⟩], .int .i64 (SvR.bad r1)]) (k := ?_)
      refine WL.op (d := 30) (.agg #[.int .u64 ((SvR.e r1 : Nat) : Int), .string ⟨(SvR.t r1).toArray⟩]) (k := ?_)
      refine WL.op (d := 31) (.int .i64 (SvR.bad r1)) (k := ?_)
      refine WL.new (d := 8) (T := 55) #[.int .u64 0, .string ⟨#[]⟩] (k := fun b177 w178 g179 hb180 k181 => ?_)
      have z182 := Nat.le_trans K.size g179
      have n183 : b ≠ b177 := Nat.ne_of_lt (Nat.lt_of_lt_of_le (lt_of_heap hb174) g179)
      have n184 : ¬ S b177 := fun h => absurd (hd175.lt _ h) (Nat.not_lt.2 g179)
      have n185 : b3 ≠ b177 := Nat.ne_of_lt (Nat.lt_of_lt_of_le (lt_of_heap hb6) g179)
      have n186 : b20 ≠ b177 := Nat.ne_of_lt (Nat.lt_of_lt_of_le (lt_of_heap hb23) g179)
      have n187 : b34 ≠ b177 := Nat.ne_of_lt (Nat.lt_of_lt_of_le (lt_of_heap hb45) g179)
      replace hb174 := k181.heap hb174 id
      replace hd175 := hd175.adds k181
      replace hb6 := k181.heap hb6 id
      replace hb23 := k181.heap hb23 id
      replace hb45 := k181.heap hb45 id
      replace K := K.trans (k181.any _)
      refine WL.store (v := .agg #[.int .u64 ((SvR.e r1 : Nat) : Int), .string ⟨(SvR.t r1).toArray⟩]) (i := 0) (cs' := #[.int .u64 ((SvR.e r1 : Nat) : Int), .string ⟨(SvR.t r1).toArray⟩]) hb180 (k := fun w188 hb189 k190 => ?_)
      replace hb174 := k190.heap hb174 n183
      replace hd175 := hd175.keeps k190 (fun i hi e => n184 (e ▸ hi))
      replace hb6 := k190.heap hb6 n185
      replace hb23 := k190.heap hb23 n186
      replace hb45 := k190.heap hb45 n187
      replace K := K.trans' k190 (fun i hi e => absurd (e ▸ hi) (Nat.not_lt.2 z182))
      clear hb180
      refine WL.op (d := 9) (.int .i64 (SvR.bad r1)) (k := ?_)
      refine WL.nil ?_
      refine WX.seqN ?_
      refine WC.seq ?_
      refine WC.seq ?_
      refine WC.region ?_
      refine WL.op (d := 32) (.int .i64 (SvR.bad r1)) (k := ?_)
      refine WL.op (d := 33) (.bool ((SvR.bad r1) != 0)) (k := ?_)
      refine WL.nil ?_
      refine WX.seqN ?_
      refine WC.rw (t := 33) (v := .bool false) (congrArg Value.bool h2) (k := ?_)
      refine WC.condF (k := ?_)
      refine WC.skip ?_
      refine WX.seqN ?_
      refine WC.seq ?_
      refine WC.region ?_
      refine WL.op (d := 39) (.pointer (some ⟨b177, 0, none⟩)) (k := ?_)
      refine WL.load (v := .int .u64 ((SvR.e r1 : Nat) : Int)) (ld1 (T := 41) (i := 0) hb189) (k := ?_)
      refine WL.op (d := 41) (.bool (((SvR.e r1 : Nat) : Int) != 0)) (k := ?_)
      refine WL.op (d := 42) (.bool (((SvR.e r1 : Nat) : Int) != 0)) (k := ?_)
      refine bsplit (((SvR.e r1 : Nat) : Int) != 0) (fun h191 => ?_) (fun h191 => ?_)
      · have ph191 := bne_iff_ne.1 h191
        refine WL.rw (t := 42) (v := .bool true) (congrArg Value.bool h191) (k := ?_)
        refine WL.op (d := 43) (.pointer (some ⟨b177, 0, none⟩)) (k := ?_)
        refine WL.load (v := .int .u64 ((SvR.e r1 : Nat) : Int)) (ld1 (T := 41) (i := 0) hb189) (k := ?_)
        refine WL.op (d := 45) (.pointer (some ⟨b20, 0, none⟩)) (k := ?_)
        refine WL.load (v := .int .u64 0) (ld1 (T := 41) (i := 0) hb23) (k := ?_)
        refine WL.op (d := 47) (.bool (decide (((SvR.e r1 : Nat) : Int) ≥ 0))) (k := ?_)
        refine WL.op (d := 48) (.bool (decide (((SvR.e r1 : Nat) : Int) ≥ 0))) (k := ?_)
        refine WL.nil ?_
        refine WX.seqN ?_
        refine WC.cond (b := decide (((SvR.e r1 : Nat) : Int) ≥ 0)) (ht := fun h192 => ?_) (hf := fun h192 => ?_)
        · have ph192 := of_decide_eq_true h192
          refine WC.region ?_
          refine WL.load (v := .agg #[.int .u64 ((SvR.e r1 : Nat) : Int), .string ⟨(SvR.t r1).toArray⟩]) (ldN (T := 55) (i := 0) (m := 2) (l := [.int .u64 ((SvR.e r1 : Nat) : Int), .string ⟨(SvR.t r1).toArray⟩]) hb189) (k := ?_)
          refine WL.op (d := 50) (.int .i64 1) (k := ?_)
          refine WL.store (v := .agg #[.int .u64 ((SvR.e r1 : Nat) : Int), .string ⟨(SvR.t r1).toArray⟩]) (i := 0) (cs' := #[.int .u64 ((SvR.e r1 : Nat) : Int), .string ⟨(SvR.t r1).toArray⟩]) hb23 (k := fun w193 hb194 k195 => ?_)
          replace hb174 := k195.heap hb174 n26
          replace hd175 := hd175.keeps k195 (fun i hi e => n27 (e ▸ hi))
          replace hb6 := k195.heap hb6 n28
          replace hb45 := k195.heap hb45 (Ne.symm n43)
          replace hb189 := k195.heap hb189 (Ne.symm n186)
          replace K := K.trans' k195 (fun i hi e => absurd (e ▸ hi) (Nat.not_lt.2 z25))
          clear hb23
          refine WL.op (d := 6) (.int .i64 1) (k := ?_)
          refine WL.nil ?_
          refine WX.blockN ?_
          refine WX.seqN ?_
          refine WC.region ?_
          refine WL.op (d := 51) (.int .i64 2) (k := ?_)
          refine WL.op (d := 23) (.int .i64 2) (k := ?_)
          refine WL.nil ?_
          refine WX.more ?_
          refine WC.seq ?_
          refine WC.region ?_
          refine WL.op (d := 24) (.bool false) (k := ?_)
          refine WL.nil ?_
          refine WX.seqN ?_
          refine WC.seq ?_
          refine WC.condF (k := ?_)
          refine WC.exit ?_
          refine WX.seqE ?_
          refine WX.seqE ?_
          refine WX.blockE ?_
          refine WX.seqN ?_
          refine WC.seq ?_
          refine WC.region ?_
          refine WL.op (d := 52) (.pointer (some ⟨b, 0, none⟩)) (k := ?_)
          refine WL.op (d := 53) (.pointer (some ⟨b, 0, none⟩)) (k := ?_)
          refine WL.op (d := 54) (.int .i64 1) (k := ?_)
          refine WL.op (d := 55) (.pointer (some ⟨b, 0, none⟩)) (k := ?_)
          refine WL.op (d := 56) (.pointer (some ⟨b, 3, none⟩)) (k := ?_)
          refine WL.store (v := .bool true) (i := 3) (cs' := #[.pointer (some ⟨dk, 0, none⟩), .int .i64 at_, .int .i64 k, .bool true, .int .u64 ((SvR.nw r1 : Nat) : Int), .int .i64 (-1)]) hb174 (k := fun w196 hb197 k198 => ?_)
          replace hd175 := hd175.keeps k198 (fun i hi e => hnb (e ▸ hi))
          replace hb6 := k198.heap hb6 (Ne.symm n9)
          replace hb194 := k198.heap hb194 (Ne.symm n26)
          replace hb45 := k198.heap hb45 (Ne.symm n40)
          replace hb189 := k198.heap hb189 (Ne.symm n183)
          replace K := K.trans' k198 (fun i hi e => .inl e)
          clear hb174
          refine WL.op (d := 57) (.pointer (some ⟨b, 0, none⟩)) (k := ?_)
          refine WL.op (d := 58) (.pointer (some ⟨b, 5, none⟩)) (k := ?_)
          refine WL.store (v := .int .i64 1) (i := 5) (cs' := #[.pointer (some ⟨dk, 0, none⟩), .int .i64 at_, .int .i64 k, .bool true, .int .u64 ((SvR.nw r1 : Nat) : Int), .int .i64 1]) hb197 (k := fun w199 hb200 k201 => ?_)
          replace hd175 := hd175.keeps k201 (fun i hi e => hnb (e ▸ hi))
          replace hb6 := k201.heap hb6 (Ne.symm n9)
          replace hb194 := k201.heap hb194 (Ne.symm n26)
          replace hb45 := k201.heap hb45 (Ne.symm n40)
          replace hb189 := k201.heap hb189 (Ne.symm n183)
          replace K := K.trans' k201 (fun i hi e => .inl e)
          clear hb197
          refine WL.nil ?_
          refine WX.seqN ?_
          refine WC.seq ?_
          refine WC.region ?_
          refine WL.op (d := 59) (.agg #[.int .u64 0, .string ⟨#[]⟩]) (k := ?_)
          refine WL.new (d := 10) (T := 55) #[.int .u64 0, .string ⟨#[]⟩] (k := fun b202 w203 g204 hb205 k206 => ?_)
          have z207 := Nat.le_trans K.size g204
          have n208 : b ≠ b202 := Nat.ne_of_lt (Nat.lt_of_lt_of_le (lt_of_heap hb200) g204)
          have n209 : ¬ S b202 := fun h => absurd (hd175.lt _ h) (Nat.not_lt.2 g204)
          have n210 : b3 ≠ b202 := Nat.ne_of_lt (Nat.lt_of_lt_of_le (lt_of_heap hb6) g204)
          have n211 : b20 ≠ b202 := Nat.ne_of_lt (Nat.lt_of_lt_of_le (lt_of_heap hb194) g204)
          have n212 : b34 ≠ b202 := Nat.ne_of_lt (Nat.lt_of_lt_of_le (lt_of_heap hb45) g204)
          have n213 : b177 ≠ b202 := Nat.ne_of_lt (Nat.lt_of_lt_of_le (lt_of_heap hb189) g204)
          replace hb200 := k206.heap hb200 id
          replace hd175 := hd175.adds k206
          replace hb6 := k206.heap hb6 id
          replace hb194 := k206.heap hb194 id
          replace hb45 := k206.heap hb45 id
          replace hb189 := k206.heap hb189 id
          replace K := K.trans (k206.any _)
          refine WL.store (v := .agg #[.int .u64 0, .string ⟨#[]⟩]) (i := 0) (cs' := #[.int .u64 0, .string ⟨#[]⟩]) hb205 (k := fun w214 hb215 k216 => ?_)
          replace hb200 := k216.heap hb200 n208
          replace hd175 := hd175.keeps k216 (fun i hi e => n209 (e ▸ hi))
          replace hb6 := k216.heap hb6 n210
          replace hb194 := k216.heap hb194 n211
          replace hb45 := k216.heap hb45 n212
          replace hb189 := k216.heap hb189 n213
          replace K := K.trans' k216 (fun i hi e => absurd (e ▸ hi) (Nat.not_lt.2 z207))
          clear hb205
          refine WL.nil ?_
          refine WX.seqN ?_
          refine WC.seq ?_
          refine WC.mixed (fun k => k = b3) 6 (k := fun w217 k218 => ?_)
          replace hb200 := k218.heap hb200 id
          replace hd175 := hd175.adds k218
          replace hb6 := k218.heap hb6 id
          replace hb194 := k218.heap hb194 id
          replace hb45 := k218.heap hb45 id
          replace hb189 := k218.heap hb189 id
          replace hb215 := k218.heap hb215 id
          replace K := K.trans (k218.any _)
          have KC := Keeps.refl (fun k => k = b3) w217
          have bh219 := hb200
          have bh220 := hb6
          have bh221 := hb194
          have bh222 := hb45
          have bh223 := hb189
          have bh224 := hb215
          have Kb := K
          refine WA.quietR 0 (d := 60) (.agg #[.int .u64 ((SvR.e r1 : Nat) : Int), .string ⟨(SvR.t r1).toArray⟩]) KC (exec_load (fun w_ k_ => ldN (T := 55) (i := 0) (m := 2) (l := [.int .u64 ((SvR.e r1 : Nat) : Int), .string ⟨(SvR.t r1).toArray⟩]) (k_.heap bh221 (Ne.symm n28)))) (hi := rfl) (k := ?_)
          refine WA.quietR 1 (d := 61) (.agg #[.int .u64 ((SvR.e r1 : Nat) : Int), .string ⟨(SvR.t r1).toArray⟩]) KC (exec_load (fun w_ k_ => ldN (T := 55) (i := 0) (m := 2) (l := [.int .u64 ((SvR.e r1 : Nat) : Int), .string ⟨(SvR.t r1).toArray⟩]) (k_.heap bh221 (Ne.symm n28)))) (hi := rfl) (k := ?_)
          refine WA.quietR 2 (d := 62) (.agg #[.int .u64 0, .string ⟨#[]⟩]) KC (exec_load (fun w_ k_ => ldN (T := 55) (i := 0) (m := 2) (l := [.int .u64 0, .string ⟨#[]⟩]) (k_.heap bh224 (Ne.symm n210)))) (hi := rfl) (k := ?_)
          refine WA.quietR 3 (d := 63) (.bool (!(decide (SvR.e r1 = 0 ∧ SvR.t r1 = [])))) KC (exec_bin (fun w_ => neqSnap (SvR.e r1) (SvR.t r1) w_)) (hi := rfl) (k := ?_)
          refine WA.step 4 (hi := rfl) (k := ?_)
          refine WL.store (v := .agg #[.int .u64 ((SvR.e r1 : Nat) : Int), .string ⟨(SvR.t r1).toArray⟩]) (i := 0) (cs' := #[.int .u64 ((SvR.e r1 : Nat) : Int), .string ⟨(SvR.t r1).toArray⟩]) hb6 (k := fun w225 hb226 k227 => ?_)
          replace hb200 := k227.heap hb200 n9
          replace hd175 := hd175.keeps k227 (fun i hi e => n10 (e ▸ hi))
          replace hb194 := k227.heap hb194 (Ne.symm n28)
          replace hb45 := k227.heap hb45 (Ne.symm n42)
          replace hb189 := k227.heap hb189 (Ne.symm n185)
          replace hb215 := k227.heap hb215 (Ne.symm n210)
          replace K := K.trans' k227 (fun i hi e => absurd (e ▸ hi) (Nat.not_lt.2 z8))
          replace KC := KC.trans' k227 (fun i hi e => e)
          clear hb6
          refine WL.nil ?_
          refine WX.nxt KC ?_
          refine WA.quiet 5 (d := 3) (.bool (!(decide (SvR.e r1 = 0 ∧ SvR.t r1 = [])))) KC (hi := rfl) (k := ?_)
          refine WA.step 6 (hi := rfl) (k := ?_)
          refine WL.op (d := 4) (.int .i64 0) (k := ?_)
          refine WL.nil ?_
          refine WX.nxtL ?_
          refine WA.done (k := ?_)
          clear KC
          refine WX.seqN ?_
          refine WC.ret ?_
          refine WX.ret (rs := [.cell 2 55, .tmp 3, .tmp 4]) [.agg #[.int .u64 ((SvR.e r1 : Nat) : Int), .string ⟨(SvR.t r1).toArray⟩], .bool (!(decide (SvR.e r1 = 0 ∧ SvR.t r1 = []))), .int .i64 0] (.tuple #[.agg #[.int .u64 ((SvR.e r1 : Nat) : Int), .string ⟨(SvR.t r1).toArray⟩], .bool (!(decide (SvR.e r1 = 0 ∧ SvR.t r1 = []))), .int .i64 0]) ⟨⟨_, (by kernel_rfl), ldN (T := 55) (i := 0) (m := 2) (l := [.int .u64 ((SvR.e r1 : Nat) : Int), .string ⟨(SvR.t r1).toArray⟩]) hb226⟩, (by kernel_rfl), (by kernel_rfl), trivial⟩ (k := ?_)
          exfalso; omega
        · have ph192 := of_decide_eq_false h192
          refine WC.skip ?_
          refine WX.blockN ?_
          refine WX.seqN ?_
          refine WC.region ?_
          refine WL.op (d := 51) (.int .i64 2) (k := ?_)
          refine WL.op (d := 23) (.int .i64 2) (k := ?_)
          refine WL.nil ?_
          refine WX.more ?_
          refine WC.seq ?_
          refine WC.region ?_
          refine WL.op (d := 24) (.bool false) (k := ?_)
          refine WL.nil ?_
          refine WX.seqN ?_
          refine WC.seq ?_
          refine WC.condF (k := ?_)
          refine WC.exit ?_
          refine WX.seqE ?_
          refine WX.seqE ?_
          refine WX.blockE ?_
          refine WX.seqN ?_
          refine WC.seq ?_
          refine WC.region ?_
          refine WL.op (d := 52) (.pointer (some ⟨b, 0, none⟩)) (k := ?_)
          refine WL.op (d := 53) (.pointer (some ⟨b, 0, none⟩)) (k := ?_)
          refine WL.op (d := 54) (.int .i64 (-1)) (k := ?_)
          refine WL.op (d := 55) (.pointer (some ⟨b, 0, none⟩)) (k := ?_)
          refine WL.op (d := 56) (.pointer (some ⟨b, 3, none⟩)) (k := ?_)
          refine WL.store (v := .bool true) (i := 3) (cs' := #[.pointer (some ⟨dk, 0, none⟩), .int .i64 at_, .int .i64 k, .bool true, .int .u64 ((SvR.nw r1 : Nat) : Int), .int .i64 (-1)]) hb174 (k := fun w228 hb229 k230 => ?_)
          replace hd175 := hd175.keeps k230 (fun i hi e => hnb (e ▸ hi))
          replace hb6 := k230.heap hb6 (Ne.symm n9)
          replace hb23 := k230.heap hb23 (Ne.symm n26)
          replace hb45 := k230.heap hb45 (Ne.symm n40)
          replace hb189 := k230.heap hb189 (Ne.symm n183)
          replace K := K.trans' k230 (fun i hi e => .inl e)
          clear hb174
          refine WL.op (d := 57) (.pointer (some ⟨b, 0, none⟩)) (k := ?_)
          refine WL.op (d := 58) (.pointer (some ⟨b, 5, none⟩)) (k := ?_)
          refine WL.store (v := .int .i64 (-1)) (i := 5) (cs' := #[.pointer (some ⟨dk, 0, none⟩), .int .i64 at_, .int .i64 k, .bool true, .int .u64 ((SvR.nw r1 : Nat) : Int), .int .i64 (-1)]) hb229 (k := fun w231 hb232 k233 => ?_)
          replace hd175 := hd175.keeps k233 (fun i hi e => hnb (e ▸ hi))
          replace hb6 := k233.heap hb6 (Ne.symm n9)
          replace hb23 := k233.heap hb23 (Ne.symm n26)
          replace hb45 := k233.heap hb45 (Ne.symm n40)
          replace hb189 := k233.heap hb189 (Ne.symm n183)
          replace K := K.trans' k233 (fun i hi e => .inl e)
          clear hb229
          refine WL.nil ?_
          refine WX.seqN ?_
          refine WC.seq ?_
          refine WC.region ?_
          refine WL.op (d := 59) (.agg #[.int .u64 0, .string ⟨#[]⟩]) (k := ?_)
          refine WL.new (d := 10) (T := 55) #[.int .u64 0, .string ⟨#[]⟩] (k := fun b234 w235 g236 hb237 k238 => ?_)
          have z239 := Nat.le_trans K.size g236
          have n240 : b ≠ b234 := Nat.ne_of_lt (Nat.lt_of_lt_of_le (lt_of_heap hb232) g236)
          have n241 : ¬ S b234 := fun h => absurd (hd175.lt _ h) (Nat.not_lt.2 g236)
          have n242 : b3 ≠ b234 := Nat.ne_of_lt (Nat.lt_of_lt_of_le (lt_of_heap hb6) g236)
          have n243 : b20 ≠ b234 := Nat.ne_of_lt (Nat.lt_of_lt_of_le (lt_of_heap hb23) g236)
          have n244 : b34 ≠ b234 := Nat.ne_of_lt (Nat.lt_of_lt_of_le (lt_of_heap hb45) g236)
          have n245 : b177 ≠ b234 := Nat.ne_of_lt (Nat.lt_of_lt_of_le (lt_of_heap hb189) g236)
          replace hb232 := k238.heap hb232 id
          replace hd175 := hd175.adds k238
          replace hb6 := k238.heap hb6 id
          replace hb23 := k238.heap hb23 id
          replace hb45 := k238.heap hb45 id
          replace hb189 := k238.heap hb189 id
          replace K := K.trans (k238.any _)
          refine WL.store (v := .agg #[.int .u64 0, .string ⟨#[]⟩]) (i := 0) (cs' := #[.int .u64 0, .string ⟨#[]⟩]) hb237 (k := fun w246 hb247 k248 => ?_)
          replace hb232 := k248.heap hb232 n240
          replace hd175 := hd175.keeps k248 (fun i hi e => n241 (e ▸ hi))
          replace hb6 := k248.heap hb6 n242
          replace hb23 := k248.heap hb23 n243
          replace hb45 := k248.heap hb45 n244
          replace hb189 := k248.heap hb189 n245
          replace K := K.trans' k248 (fun i hi e => absurd (e ▸ hi) (Nat.not_lt.2 z239))
          clear hb237
          refine WL.nil ?_
          refine WX.seqN ?_
          refine WC.seq ?_
          refine WC.mixed (fun k => k = b3) 6 (k := fun w249 k250 => ?_)
          replace hb232 := k250.heap hb232 id
          replace hd175 := hd175.adds k250
          replace hb6 := k250.heap hb6 id
          replace hb23 := k250.heap hb23 id
          replace hb45 := k250.heap hb45 id
          replace hb189 := k250.heap hb189 id
          replace hb247 := k250.heap hb247 id
          replace K := K.trans (k250.any _)
          have KC := Keeps.refl (fun k => k = b3) w249
          have bh251 := hb232
          have bh252 := hb6
          have bh253 := hb23
          have bh254 := hb45
          have bh255 := hb189
          have bh256 := hb247
          have Kb := K
          refine WA.quietR 0 (d := 60) (.agg #[.int .u64 0, .string ⟨#[]⟩]) KC (exec_load (fun w_ k_ => ldN (T := 55) (i := 0) (m := 2) (l := [.int .u64 0, .string ⟨#[]⟩]) (k_.heap bh253 (Ne.symm n28)))) (hi := rfl) (k := ?_)
          refine WA.quietR 1 (d := 61) (.agg #[.int .u64 0, .string ⟨#[]⟩]) KC (exec_load (fun w_ k_ => ldN (T := 55) (i := 0) (m := 2) (l := [.int .u64 0, .string ⟨#[]⟩]) (k_.heap bh253 (Ne.symm n28)))) (hi := rfl) (k := ?_)
          refine WA.quietR 2 (d := 62) (.agg #[.int .u64 0, .string ⟨#[]⟩]) KC (exec_load (fun w_ k_ => ldN (T := 55) (i := 0) (m := 2) (l := [.int .u64 0, .string ⟨#[]⟩]) (k_.heap bh256 (Ne.symm n242)))) (hi := rfl) (k := ?_)
          refine WA.quietR 3 (d := 63) (.bool false) KC (exec_bin (fun w_ => neqSnap0 w_)) (hi := rfl) (k := ?_)
          refine WA.step 4 (hi := rfl) (k := ?_)
          refine WL.store (v := .agg #[.int .u64 0, .string ⟨#[]⟩]) (i := 0) (cs' := #[.int .u64 0, .string ⟨#[]⟩]) hb6 (k := fun w257 hb258 k259 => ?_)
          replace hb232 := k259.heap hb232 n9
          replace hd175 := hd175.keeps k259 (fun i hi e => n10 (e ▸ hi))
          replace hb23 := k259.heap hb23 (Ne.symm n28)
          replace hb45 := k259.heap hb45 (Ne.symm n42)
          replace hb189 := k259.heap hb189 (Ne.symm n185)
          replace hb247 := k259.heap hb247 (Ne.symm n242)
          replace K := K.trans' k259 (fun i hi e => absurd (e ▸ hi) (Nat.not_lt.2 z8))
          replace KC := KC.trans' k259 (fun i hi e => e)
          clear hb6
          refine WL.nil ?_
          refine WX.nxt KC ?_
          refine WA.quiet 5 (d := 3) (.bool false) KC (hi := rfl) (k := ?_)
          refine WA.step 6 (hi := rfl) (k := ?_)
          refine WL.op (d := 4) (.int .i64 0) (k := ?_)
          refine WL.nil ?_
          refine WX.nxtL ?_
          refine WA.done (k := ?_)
          clear KC
          refine WX.seqN ?_
          refine WC.ret ?_
          refine WX.ret (rs := [.cell 2 55, .tmp 3, .tmp 4]) [.agg #[.int .u64 0, .string ⟨#[]⟩], .bool false, .int .i64 0] (.tuple #[.agg #[.int .u64 0, .string ⟨#[]⟩], .bool false, .int .i64 0]) ⟨⟨_, (by kernel_rfl), ldN (T := 55) (i := 0) (m := 2) (l := [.int .u64 0, .string ⟨#[]⟩]) hb258⟩, (by kernel_rfl), (by kernel_rfl), trivial⟩ (k := ?_)
          exfalso; omega
      · have ph191 := of_bne_false h191
        refine WL.rw (t := 42) (v := .bool false) (congrArg Value.bool h191) (k := ?_)
        refine WL.skip (d := 43) (k := ?_)
        refine WL.skip (d := 44) (k := ?_)
        refine WL.skip (d := 45) (k := ?_)
        refine WL.skip (d := 46) (k := ?_)
        refine WL.skip (d := 47) (k := ?_)
        refine WL.op (d := 48) (.bool false) (k := ?_)
        refine WL.nil ?_
        refine WX.seqN ?_
        refine WC.condF (k := ?_)
        refine WC.skip ?_
        refine WX.blockN ?_
        refine WX.seqN ?_
        refine WC.region ?_
        refine WL.op (d := 51) (.int .i64 2) (k := ?_)
        refine WL.op (d := 23) (.int .i64 2) (k := ?_)
        refine WL.nil ?_
        refine WX.more ?_
        refine WC.seq ?_
        refine WC.region ?_
        refine WL.op (d := 24) (.bool false) (k := ?_)
        refine WL.nil ?_
        refine WX.seqN ?_
        refine WC.seq ?_
        refine WC.condF (k := ?_)
        refine WC.exit ?_
        refine WX.seqE ?_
        refine WX.seqE ?_
        refine WX.blockE ?_
        refine WX.seqN ?_
        refine WC.seq ?_
        refine WC.region ?_
        refine WL.op (d := 52) (.pointer (some ⟨b, 0, none⟩)) (k := ?_)
        refine WL.op (d := 53) (.pointer (some ⟨b, 0, none⟩)) (k := ?_)
        refine WL.op (d := 54) (.int .i64 (-1)) (k := ?_)
        refine WL.op (d := 55) (.pointer (some ⟨b, 0, none⟩)) (k := ?_)
        refine WL.op (d := 56) (.pointer (some ⟨b, 3, none⟩)) (k := ?_)
        refine WL.store (v := .bool true) (i := 3) (cs' := #[.pointer (some ⟨dk, 0, none⟩), .int .i64 at_, .int .i64 k, .bool true, .int .u64 ((SvR.nw r1 : Nat) : Int), .int .i64 (-1)]) hb174 (k := fun w260 hb261 k262 => ?_)
        replace hd175 := hd175.keeps k262 (fun i hi e => hnb (e ▸ hi))
        replace hb6 := k262.heap hb6 (Ne.symm n9)
        replace hb23 := k262.heap hb23 (Ne.symm n26)
        replace hb45 := k262.heap hb45 (Ne.symm n40)
        replace hb189 := k262.heap hb189 (Ne.symm n183)
        replace K := K.trans' k262 (fun i hi e => .inl e)
        clear hb174
        refine WL.op (d := 57) (.pointer (some ⟨b, 0, none⟩)) (k := ?_)
        refine WL.op (d := 58) (.pointer (some ⟨b, 5, none⟩)) (k := ?_)
        refine WL.store (v := .int .i64 (-1)) (i := 5) (cs' := #[.pointer (some ⟨dk, 0, none⟩), .int .i64 at_, .int .i64 k, .bool true, .int .u64 ((SvR.nw r1 : Nat) : Int), .int .i64 (-1)]) hb261 (k := fun w263 hb264 k265 => ?_)
        replace hd175 := hd175.keeps k265 (fun i hi e => hnb (e ▸ hi))
        replace hb6 := k265.heap hb6 (Ne.symm n9)
        replace hb23 := k265.heap hb23 (Ne.symm n26)
        replace hb45 := k265.heap hb45 (Ne.symm n40)
        replace hb189 := k265.heap hb189 (Ne.symm n183)
        replace K := K.trans' k265 (fun i hi e => .inl e)
        clear hb261
        refine WL.nil ?_
        refine WX.seqN ?_
        refine WC.seq ?_
        refine WC.region ?_
        refine WL.op (d := 59) (.agg #[.int .u64 0, .string ⟨#[]⟩]) (k := ?_)
        refine WL.new (d := 10) (T := 55) #[.int .u64 0, .string ⟨#[]⟩] (k := fun b266 w267 g268 hb269 k270 => ?_)
        have z271 := Nat.le_trans K.size g268
        have n272 : b ≠ b266 := Nat.ne_of_lt (Nat.lt_of_lt_of_le (lt_of_heap hb264) g268)
        have n273 : ¬ S b266 := fun h => absurd (hd175.lt _ h) (Nat.not_lt.2 g268)
        have n274 : b3 ≠ b266 := Nat.ne_of_lt (Nat.lt_of_lt_of_le (lt_of_heap hb6) g268)
        have n275 : b20 ≠ b266 := Nat.ne_of_lt (Nat.lt_of_lt_of_le (lt_of_heap hb23) g268)
        have n276 : b34 ≠ b266 := Nat.ne_of_lt (Nat.lt_of_lt_of_le (lt_of_heap hb45) g268)
        have n277 : b177 ≠ b266 := Nat.ne_of_lt (Nat.lt_of_lt_of_le (lt_of_heap hb189) g268)
        replace hb264 := k270.heap hb264 id
        replace hd175 := hd175.adds k270
        replace hb6 := k270.heap hb6 id
        replace hb23 := k270.heap hb23 id
        replace hb45 := k270.heap hb45 id
        replace hb189 := k270.heap hb189 id
        replace K := K.trans (k270.any _)
        refine WL.store (v := .agg #[.int .u64 0, .string ⟨#[]⟩]) (i := 0) (cs' := #[.int .u64 0, .string ⟨#[]⟩]) hb269 (k := fun w278 hb279 k280 => ?_)
        replace hb264 := k280.heap hb264 n272
        replace hd175 := hd175.keeps k280 (fun i hi e => n273 (e ▸ hi))
        replace hb6 := k280.heap hb6 n274
        replace hb23 := k280.heap hb23 n275
        replace hb45 := k280.heap hb45 n276
        replace hb189 := k280.heap hb189 n277
        replace K := K.trans' k280 (fun i hi e => absurd (e ▸ hi) (Nat.not_lt.2 z271))
        clear hb269
        refine WL.nil ?_
        refine WX.seqN ?_
        refine WC.seq ?_
        refine WC.mixed (fun k => k = b3) 6 (k := fun w281 k282 => ?_)
        replace hb264 := k282.heap hb264 id
        replace hd175 := hd175.adds k282
        replace hb6 := k282.heap hb6 id
        replace hb23 := k282.heap hb23 id
        replace hb45 := k282.heap hb45 id
        replace hb189 := k282.heap hb189 id
        replace hb279 := k282.heap hb279 id
        replace K := K.trans (k282.any _)
        have KC := Keeps.refl (fun k => k = b3) w281
        have bh283 := hb264
        have bh284 := hb6
        have bh285 := hb23
        have bh286 := hb45
        have bh287 := hb189
        have bh288 := hb279
        have Kb := K
        refine WA.quietR 0 (d := 60) (.agg #[.int .u64 0, .string ⟨#[]⟩]) KC (exec_load (fun w_ k_ => ldN (T := 55) (i := 0) (m := 2) (l := [.int .u64 0, .string ⟨#[]⟩]) (k_.heap bh285 (Ne.symm n28)))) (hi := rfl) (k := ?_)
        refine WA.quietR 1 (d := 61) (.agg #[.int .u64 0, .string ⟨#[]⟩]) KC (exec_load (fun w_ k_ => ldN (T := 55) (i := 0) (m := 2) (l := [.int .u64 0, .string ⟨#[]⟩]) (k_.heap bh285 (Ne.symm n28)))) (hi := rfl) (k := ?_)
        refine WA.quietR 2 (d := 62) (.agg #[.int .u64 0, .string ⟨#[]⟩]) KC (exec_load (fun w_ k_ => ldN (T := 55) (i := 0) (m := 2) (l := [.int .u64 0, .string ⟨#[]⟩]) (k_.heap bh288 (Ne.symm n274)))) (hi := rfl) (k := ?_)
        refine WA.quietR 3 (d := 63) (.bool false) KC (exec_bin (fun w_ => neqSnap0 w_)) (hi := rfl) (k := ?_)
        refine WA.step 4 (hi := rfl) (k := ?_)
        refine WL.store (v := .agg #[.int .u64 0, .string ⟨#[]⟩]) (i := 0) (cs' := #[.int .u64 0, .string ⟨#[]⟩]) hb6 (k := fun w289 hb290 k291 => ?_)
        replace hb264 := k291.heap hb264 n9
        replace hd175 := hd175.keeps k291 (fun i hi e => n10 (e ▸ hi))
        replace hb23 := k291.heap hb23 (Ne.symm n28)
        replace hb45 := k291.heap hb45 (Ne.symm n42)
        replace hb189 := k291.heap hb189 (Ne.symm n185)
        replace hb279 := k291.heap hb279 (Ne.symm n274)
        replace K := K.trans' k291 (fun i hi e => absurd (e ▸ hi) (Nat.not_lt.2 z8))
        replace KC := KC.trans' k291 (fun i hi e => e)
        clear hb6
        refine WL.nil ?_
        refine WX.nxt KC ?_
        refine WA.quiet 5 (d := 3) (.bool false) KC (hi := rfl) (k := ?_)
        refine WA.step 6 (hi := rfl) (k := ?_)
        refine WL.op (d := 4) (.int .i64 0) (k := ?_)
        refine WL.nil ?_
        refine WX.nxtL ?_
        refine WA.done (k := ?_)
        clear KC
        refine WX.seqN ?_
        refine WC.ret ?_
        refine WX.ret (rs := [.cell 2 55, .tmp 3, .tmp 4]) [.agg #[.int .u64 0, .string ⟨#[]⟩], .bool false, .int .i64 0] (.tuple #[.agg #[.int .u64 0, .string ⟨#[]⟩], .bool false, .int .i64 0]) ⟨⟨_, (by kernel_rfl), ldN (T := 55) (i := 0) (m := 2) (l := [.int .u64 0, .string ⟨#[]⟩]) hb290⟩, (by kernel_rfl), (by kernel_rfl), trivial⟩ (k := ?_)
        exfalso; omega
  · have ph47 := of_bne_false h47
    refine WL.rw (t := 42) (v := .bool false) (congrArg Value.bool h47) (k := ?_)
    refine WL.skip (d := 43) (k := ?_)
    refine WL.skip (d := 44) (k := ?_)
    refine WL.skip (d := 45) (k := ?_)
    refine WL.skip (d := 46) (k := ?_)
    refine WL.skip (d := 47) (k := ?_)
    refine WL.op (d := 48) (.bool false) (k := ?_)
    refine WL.nil ?_
    refine WX.seqN ?_
    refine WC.condF (k := ?_)
    refine WC.skip ?_
    refine WX.blockN ?_
    refine WX.seqN ?_
    refine WC.region ?_
    refine WL.op (d := 51) (.int .i64 1) (k := ?_)
    refine WL.op (d := 23) (.int .i64 1) (k := ?_)
    refine WL.nil ?_
    refine WX.more ?_
    refine WC.seq ?_
    refine WC.region ?_
    refine WL.op (d := 24) (.bool true) (k := ?_)
    refine WL.nil ?_
    refine WX.seqN ?_
    refine WC.seq ?_
    refine WC.condT (k := ?_)
    refine WC.skip ?_
    refine WX.seqN ?_
    refine WC.seq ?_
    refine WC.block ?_
    refine WC.seq ?_
    refine WC.region ?_
    refine WL.op (d := 25) (.int .i64 1) (k := ?_)
    refine WL.op (d := 7) (.int .i64 1) (k := ?_)
    refine WL.nil ?_
    refine WX.seqN ?_
    refine WC.seq ?_
    refine WC.region ?_
    refine WL.op (d := 27) (.pointer (some ⟨b, 0, none⟩)) (k := ?_)
    refine WL.op (d := 28) (.int .i64 1) (k := ?_)
    refine WL.callG (d := 29) (f := 37) (args := #[.pointer (some ⟨b, 0, none⟩), .int .i64 1]) (svSlot_r (slot := 1) (sk := k) (k := k) (nw := SvR.nw r0) (by omega) (by omega) (by omega) (by omega) (by omega) (by omega) (by omega) hb31 hd32 hnb (by omega) sB) (k := fun e_ w293 h_ => ?_)
    obtain ⟨rfl, hb294, hd295, k296⟩ := h_
    refine ⟨_, rfl, ?_⟩
    replace K := K.trans' k296 (fun i hi e => e.elim (fun e => .inl e) (fun e => (lk0 i e).elim (fun h => .inr h) (fun h => absurd hi (Nat.not_lt.2 h))))
    replace hb6 := k296.heap hb6 (not_or.2 ⟨Ne.symm n9, n10⟩)
    replace hb23 := k296.heap hb23 (not_or.2 ⟨Ne.symm n26, n27⟩)
    replace hb45 := k296.heap hb45 (not_or.2 ⟨Ne.symm n40, n41⟩)
    clear hb31 hd32
    have rl292 := SvR.e_lt (by omega) sB
    refine WL.op (d := 26) (.tuple #[.agg #[.int .u64 ((SvR.e r1 : Nat) : Int), .string ⟨(SvR.t r1).toArray⟩], .int .i64 (SvR.bad r1)]) (k := ?_)
    refine WL.op (d := 30) (.agg #[.int .u64 ((SvR.e r1 : Nat) : Int), .string ⟨(SvR.t r1).toArray⟩]) (k := ?_)
    refine WL.op (d := 31) (.int .i64 (SvR.bad r1)) (k := ?_)
    refine WL.new (d := 8) (T := 55) #[.int .u64 0, .string ⟨#[]⟩] (k := fun b297 w298 g299 hb300 k301 => ?_)
    have z302 := Nat.le_trans K.size g299
    have n303 : b ≠ b297 := Nat.ne_of_lt (Nat.lt_of_lt_of_le (lt_of_heap hb294) g299)
    have n304 : ¬ S b297 := fun h => absurd (hd295.lt _ h) (Nat.not_lt.2 g299)
    have n305 : b3 ≠ b297 := Nat.ne_of_lt (Nat.lt_of_lt_of_le (lt_of_heap hb6) g299)
    have n306 : b20 ≠ b297 := Nat.ne_of_lt (Nat.lt_of_lt_of_le (lt_of_heap hb23) g299)
    have n307 : b34 ≠ b297 := Nat.ne_of_lt (Nat.lt_of_lt_of_le (lt_of_heap hb45) g299)
    replace hb294 := k301.heap hb294 id
    replace hd295 := hd295.adds k301
    replace hb6 := k301.heap hb6 id
    replace hb23 := k301.heap hb23 id
    replace hb45 := k301.heap hb45 id
    replace K := K.trans (k301.any _)
    refine WL.store (v := .agg #[.int .u64 ((SvR.e r1 : Nat) : Int), .string ⟨(SvR.t r1).toArray⟩]) (i := 0) (cs' := #[.int .u64 ((SvR.e r1 : Nat) : Int), .string ⟨(SvR.t r1).toArray⟩]) hb300 (k := fun w308 hb309 k310 => ?_)
    replace hb294 := k310.heap hb294 n303
    replace hd295 := hd295.keeps k310 (fun i hi e => n304 (e ▸ hi))
    replace hb6 := k310.heap hb6 n305
    replace hb23 := k310.heap hb23 n306
    replace hb45 := k310.heap hb45 n307
    replace K := K.trans' k310 (fun i hi e => absurd (e ▸ hi) (Nat.not_lt.2 z302))
    clear hb300
    refine WL.op (d := 9) (.int .i64 (SvR.bad r1)) (k := ?_)
    refine WL.nil ?_
    refine WX.seqN ?_
    refine WC.seq ?_
    refine WC.seq ?_
    refine WC.region ?_
    refine WL.op (d := 32) (.int .i64 (SvR.bad r1)) (k := ?_)
    refine WL.op (d := 33) (.bool ((SvR.bad r1) != 0)) (k := ?_)
    refine WL.nil ?_
    refine WX.seqN ?_
    refine WC.rw (t := 33) (v := .bool false) (congrArg Value.bool h2) (k := ?_)
    refine WC.condF (k := ?_)
    refine WC.skip ?_
    refine WX.seqN ?_
    refine WC.seq ?_
    refine WC.region ?_
    refine WL.op (d := 39) (.pointer (some ⟨b297, 0, none⟩)) (k := ?_)
    refine WL.load (v := .int .u64 ((SvR.e r1 : Nat) : Int)) (ld1 (T := 41) (i := 0) hb309) (k := ?_)
    refine WL.op (d := 41) (.bool (((SvR.e r1 : Nat) : Int) != 0)) (k := ?_)
    refine WL.op (d := 42) (.bool (((SvR.e r1 : Nat) : Int) != 0)) (k := ?_)
    refine bsplit (((SvR.e r1 : Nat) : Int) != 0) (fun h311 => ?_) (fun h311 => ?_)
    · have ph311 := bne_iff_ne.1 h311
      refine WL.rw (t := 42) (v := .bool true) (congrArg Value.bool h311) (k := ?_)
      refine WL.op (d := 43) (.pointer (some ⟨b297, 0, none⟩)) (k := ?_)
      refine WL.load (v := .int .u64 ((SvR.e r1 : Nat) : Int)) (ld1 (T := 41) (i := 0) hb309) (k := ?_)
      refine WL.op (d := 45) (.pointer (some ⟨b20, 0, none⟩)) (k := ?_)
      refine WL.load (v := .int .u64 0) (ld1 (T := 41) (i := 0) hb23) (k := ?_)
      refine WL.op (d := 47) (.bool (decide (((SvR.e r1 : Nat) : Int) ≥ 0))) (k := ?_)
      refine WL.op (d := 48) (.bool (decide (((SvR.e r1 : Nat) : Int) ≥ 0))) (k := ?_)
      refine WL.nil ?_
      refine WX.seqN ?_
      refine WC.cond (b := decide (((SvR.e r1 : Nat) : Int) ≥ 0)) (ht := fun h312 => ?_) (hf := fun h312 => ?_)
      · have ph312 := of_decide_eq_true h312
        refine WC.region ?_
        refine WL.load (v := .agg #[.int .u64 ((SvR.e r1 : Nat) : Int), .string ⟨(SvR.t r1).toArray⟩]) (ldN (T := 55) (i := 0) (m := 2) (l := [.int .u64 ((SvR.e r1 : Nat) : Int), .string ⟨(SvR.t r1).toArray⟩]) hb309) (k := ?_)
        refine WL.op (d := 50) (.int .i64 1) (k := ?_)
        refine WL.store (v := .agg #[.int .u64 ((SvR.e r1 : Nat) : Int), .string ⟨(SvR.t r1).toArray⟩]) (i := 0) (cs' := #[.int .u64 ((SvR.e r1 : Nat) : Int), .string ⟨(SvR.t r1).toArray⟩]) hb23 (k := fun w313 hb314 k315 => ?_)
        replace hb294 := k315.heap hb294 n26
        replace hd295 := hd295.keeps k315 (fun i hi e => n27 (e ▸ hi))
        replace hb6 := k315.heap hb6 n28
        replace hb45 := k315.heap hb45 (Ne.symm n43)
        replace hb309 := k315.heap hb309 (Ne.symm n306)
        replace K := K.trans' k315 (fun i hi e => absurd (e ▸ hi) (Nat.not_lt.2 z25))
        clear hb23
        refine WL.op (d := 6) (.int .i64 1) (k := ?_)
        refine WL.nil ?_
        refine WX.blockN ?_
        refine WX.seqN ?_
        refine WC.region ?_
        refine WL.op (d := 51) (.int .i64 2) (k := ?_)
        refine WL.op (d := 23) (.int .i64 2) (k := ?_)
        refine WL.nil ?_
        refine WX.more ?_
        refine WC.seq ?_
        refine WC.region ?_
        refine WL.op (d := 24) (.bool false) (k := ?_)
        refine WL.nil ?_
        refine WX.seqN ?_
        refine WC.seq ?_
        refine WC.condF (k := ?_)
        refine WC.exit ?_
        refine WX.seqE ?_
        refine WX.seqE ?_
        refine WX.blockE ?_
        refine WX.seqN ?_
        refine WC.seq ?_
        refine WC.region ?_
        refine WL.op (d := 52) (.pointer (some ⟨b, 0, none⟩)) (k := ?_)
        refine WL.op (d := 53) (.pointer (some ⟨b, 0, none⟩)) (k := ?_)
        refine WL.op (d := 54) (.int .i64 1) (k := ?_)
        refine WL.op (d := 55) (.pointer (some ⟨b, 0, none⟩)) (k := ?_)
        refine WL.op (d := 56) (.pointer (some ⟨b, 3, none⟩)) (k := ?_)
        refine WL.store (v := .bool true) (i := 3) (cs' := #[.pointer (some ⟨dk, 0, none⟩), .int .i64 at_, .int .i64 k, .bool true, .int .u64 ((SvR.nw r1 : Nat) : Int), .int .i64 (-1)]) hb294 (k := fun w316 hb317 k318 => ?_)
        replace hd295 := hd295.keeps k318 (fun i hi e => hnb (e ▸ hi))
        replace hb6 := k318.heap hb6 (Ne.symm n9)
        replace hb314 := k318.heap hb314 (Ne.symm n26)
        replace hb45 := k318.heap hb45 (Ne.symm n40)
        replace hb309 := k318.heap hb309 (Ne.symm n303)
        replace K := K.trans' k318 (fun i hi e => .inl e)
        clear hb294
        refine WL.op (d := 57) (.pointer (some ⟨b, 0, none⟩)) (k := ?_)
        refine WL.op (d := 58) (.pointer (some ⟨b, 5, none⟩)) (k := ?_)
        refine WL.store (v := .int .i64 1) (i := 5) (cs' := #[.pointer (some ⟨dk, 0, none⟩), .int .i64 at_, .int .i64 k, .bool true, .int .u64 ((SvR.nw r1 : Nat) : Int), .int .i64 1]) hb317 (k := fun w319 hb320 k321 => ?_)
        replace hd295 := hd295.keeps k321 (fun i hi e => hnb (e ▸ hi))
        replace hb6 := k321.heap hb6 (Ne.symm n9)
        replace hb314 := k321.heap hb314 (Ne.symm n26)
        replace hb45 := k321.heap hb45 (Ne.symm n40)
        replace hb309 := k321.heap hb309 (Ne.symm n303)
        replace K := K.trans' k321 (fun i hi e => .inl e)
        clear hb317
        refine WL.nil ?_
        refine WX.seqN ?_
        refine WC.seq ?_
        refine WC.region ?_
        refine WL.op (d := 59) (.agg #[.int .u64 0, .string ⟨#[]⟩]) (k := ?_)
        refine WL.new (d := 10) (T := 55) #[.int .u64 0, .string ⟨#[]⟩] (k := fun b322 w323 g324 hb325 k326 => ?_)
        have z327 := Nat.le_trans K.size g324
        have n328 : b ≠ b322 := Nat.ne_of_lt (Nat.lt_of_lt_of_le (lt_of_heap hb320) g324)
        have n329 : ¬ S b322 := fun h => absurd (hd295.lt _ h) (Nat.not_lt.2 g324)
        have n330 : b3 ≠ b322 := Nat.ne_of_lt (Nat.lt_of_lt_of_le (lt_of_heap hb6) g324)
        have n331 : b20 ≠ b322 := Nat.ne_of_lt (Nat.lt_of_lt_of_le (lt_of_heap hb314) g324)
        have n332 : b34 ≠ b322 := Nat.ne_of_lt (Nat.lt_of_lt_of_le (lt_of_heap hb45) g324)
        have n333 : b297 ≠ b322 := Nat.ne_of_lt (Nat.lt_of_lt_of_le (lt_of_heap hb309) g324)
        replace hb320 := k326.heap hb320 id
        replace hd295 := hd295.adds k326
        replace hb6 := k326.heap hb6 id
        replace hb314 := k326.heap hb314 id
        replace hb45 := k326.heap hb45 id
        replace hb309 := k326.heap hb309 id
        replace K := K.trans (k326.any _)
        refine WL.store (v := .agg #[.int .u64 0, .string ⟨#[]⟩]) (i := 0) (cs' := #[.int .u64 0, .string ⟨#[]⟩]) hb325 (k := fun w334 hb335 k336 => ?_)
        replace hb320 := k336.heap hb320 n328
        replace hd295 := hd295.keeps k336 (fun i hi e => n329 (e ▸ hi))
        replace hb6 := k336.heap hb6 n330
        replace hb314 := k336.heap hb314 n331
        replace hb45 := k336.heap hb45 n332
        replace hb309 := k336.heap hb309 n333
        replace K := K.trans' k336 (fun i hi e => absurd (e ▸ hi) (Nat.not_lt.2 z327))
        clear hb325
        refine WL.nil ?_
        refine WX.seqN ?_
        refine WC.seq ?_
        refine WC.mixed (fun k => k = b3) 6 (k := fun w337 k338 => ?_)
        replace hb320 := k338.heap hb320 id
        replace hd295 := hd295.adds k338
        replace hb6 := k338.heap hb6 id
        replace hb314 := k338.heap hb314 id
        replace hb45 := k338.heap hb45 id
        replace hb309 := k338.heap hb309 id
        replace hb335 := k338.heap hb335 id
        replace K := K.trans (k338.any _)
        have KC := Keeps.refl (fun k => k = b3) w337
        have bh339 := hb320
        have bh340 := hb6
        have bh341 := hb314
        have bh342 := hb45
        have bh343 := hb309
        have bh344 := hb335
        have Kb := K
        refine WA.quietR 0 (d := 60) (.agg #[.int .u64 ((SvR.e r1 : Nat) : Int), .string ⟨(SvR.t r1).toArray⟩]) KC (exec_load (fun w_ k_ => ldN (T := 55) (i := 0) (m := 2) (l := [.int .u64 ((SvR.e r1 : Nat) : Int), .string ⟨(SvR.t r1).toArray⟩]) (k_.heap bh341 (Ne.symm n28)))) (hi := rfl) (k := ?_)
        refine WA.quietR 1 (d := 61) (.agg #[.int .u64 ((SvR.e r1 : Nat) : Int), .string ⟨(SvR.t r1).toArray⟩]) KC (exec_load (fun w_ k_ => ldN (T := 55) (i := 0) (m := 2) (l := [.int .u64 ((SvR.e r1 : Nat) : Int), .string ⟨(SvR.t r1).toArray⟩]) (k_.heap bh341 (Ne.symm n28)))) (hi := rfl) (k := ?_)
        refine WA.quietR 2 (d := 62) (.agg #[.int .u64 0, .string ⟨#[]⟩]) KC (exec_load (fun w_ k_ => ldN (T := 55) (i := 0) (m := 2) (l := [.int .u64 0, .string ⟨#[]⟩]) (k_.heap bh344 (Ne.symm n330)))) (hi := rfl) (k := ?_)
        refine WA.quietR 3 (d := 63) (.bool (!(decide (SvR.e r1 = 0 ∧ SvR.t r1 = [])))) KC (exec_bin (fun w_ => neqSnap (SvR.e r1) (SvR.t r1) w_)) (hi := rfl) (k := ?_)
        refine WA.step 4 (hi := rfl) (k := ?_)
        refine WL.store (v := .agg #[.int .u64 ((SvR.e r1 : Nat) : Int), .string ⟨(SvR.t r1).toArray⟩]) (i := 0) (cs' := #[.int .u64 ((SvR.e r1 : Nat) : Int), .string ⟨(SvR.t r1).toArray⟩]) hb6 (k := fun w345 hb346 k347 => ?_)
        replace hb320 := k347.heap hb320 n9
        replace hd295 := hd295.keeps k347 (fun i hi e => n10 (e ▸ hi))
        replace hb314 := k347.heap hb314 (Ne.symm n28)
        replace hb45 := k347.heap hb45 (Ne.symm n42)
        replace hb309 := k347.heap hb309 (Ne.symm n305)
        replace hb335 := k347.heap hb335 (Ne.symm n330)
        replace K := K.trans' k347 (fun i hi e => absurd (e ▸ hi) (Nat.not_lt.2 z8))
        replace KC := KC.trans' k347 (fun i hi e => e)
        clear hb6
        refine WL.nil ?_
        refine WX.nxt KC ?_
        refine WA.quiet 5 (d := 3) (.bool (!(decide (SvR.e r1 = 0 ∧ SvR.t r1 = [])))) KC (hi := rfl) (k := ?_)
        refine WA.step 6 (hi := rfl) (k := ?_)
        refine WL.op (d := 4) (.int .i64 0) (k := ?_)
        refine WL.nil ?_
        refine WX.nxtL ?_
        refine WA.done (k := ?_)
        clear KC
        refine WX.seqN ?_
        refine WC.ret ?_
        refine WX.ret (rs := [.cell 2 55, .tmp 3, .tmp 4]) [.agg #[.int .u64 ((SvR.e r1 : Nat) : Int), .string ⟨(SvR.t r1).toArray⟩], .bool (!(decide (SvR.e r1 = 0 ∧ SvR.t r1 = []))), .int .i64 0] (.tuple #[.agg #[.int .u64 ((SvR.e r1 : Nat) : Int), .string ⟨(SvR.t r1).toArray⟩], .bool (!(decide (SvR.e r1 = 0 ∧ SvR.t r1 = []))), .int .i64 0]) ⟨⟨_, (by kernel_rfl), ldN (T := 55) (i := 0) (m := 2) (l := [.int .u64 ((SvR.e r1 : Nat) : Int), .string ⟨(SvR.t r1).toArray⟩]) hb346⟩, (by kernel_rfl), (by kernel_rfl), trivial⟩ (k := ?_)
        obtain ⟨q1_, q2_, q3_⟩ := pick_r1 (p := r0) (q := r1) (by omega) (by omega)
        rw [q1_, q2_, q3_]
        have n_ : ¬ SvR.e r1 = 0 := by omega
        exact ⟨by rw [decide_eq_true n_, decide_eq_false (fun h_ => n_ h_.1)]; rfl, hb320, hd295, K⟩
      · have ph312 := of_decide_eq_false h312
        refine WC.skip ?_
        refine WX.blockN ?_
        refine WX.seqN ?_
        refine WC.region ?_
        refine WL.op (d := 51) (.int .i64 2) (k := ?_)
        refine WL.op (d := 23) (.int .i64 2) (k := ?_)
        refine WL.nil ?_
        refine WX.more ?_
        refine WC.seq ?_
        refine WC.region ?_
        refine WL.op (d := 24) (.bool false) (k := ?_)
        refine WL.nil ?_
        refine WX.seqN ?_
        refine WC.seq ?_
        refine WC.condF (k := ?_)
        refine WC.exit ?_
        refine WX.seqE ?_
        refine WX.seqE ?_
        refine WX.blockE ?_
        refine WX.seqN ?_
        refine WC.seq ?_
        refine WC.region ?_
        refine WL.op (d := 52) (.pointer (some ⟨b, 0, none⟩)) (k := ?_)
        refine WL.op (d := 53) (.pointer (some ⟨b, 0, none⟩)) (k := ?_)
        refine WL.op (d := 54) (.int .i64 (-1)) (k := ?_)
        refine WL.op (d := 55) (.pointer (some ⟨b, 0, none⟩)) (k := ?_)
        refine WL.op (d := 56) (.pointer (some ⟨b, 3, none⟩)) (k := ?_)
        refine WL.store (v := .bool true) (i := 3) (cs' := #[.pointer (some ⟨dk, 0, none⟩), .int .i64 at_, .int .i64 k, .bool true, .int .u64 ((SvR.nw r1 : Nat) : Int), .int .i64 (-1)]) hb294 (k := fun w348 hb349 k350 => ?_)
        replace hd295 := hd295.keeps k350 (fun i hi e => hnb (e ▸ hi))
        replace hb6 := k350.heap hb6 (Ne.symm n9)
        replace hb23 := k350.heap hb23 (Ne.symm n26)
        replace hb45 := k350.heap hb45 (Ne.symm n40)
        replace hb309 := k350.heap hb309 (Ne.symm n303)
        replace K := K.trans' k350 (fun i hi e => .inl e)
        clear hb294
        refine WL.op (d := 57) (.pointer (some ⟨b, 0, none⟩)) (k := ?_)
        refine WL.op (d := 58) (.pointer (some ⟨b, 5, none⟩)) (k := ?_)
        refine WL.store (v := .int .i64 (-1)) (i := 5) (cs' := #[.pointer (some ⟨dk, 0, none⟩), .int .i64 at_, .int .i64 k, .bool true, .int .u64 ((SvR.nw r1 : Nat) : Int), .int .i64 (-1)]) hb349 (k := fun w351 hb352 k353 => ?_)
        replace hd295 := hd295.keeps k353 (fun i hi e => hnb (e ▸ hi))
        replace hb6 := k353.heap hb6 (Ne.symm n9)
        replace hb23 := k353.heap hb23 (Ne.symm n26)
        replace hb45 := k353.heap hb45 (Ne.symm n40)
        replace hb309 := k353.heap hb309 (Ne.symm n303)
        replace K := K.trans' k353 (fun i hi e => .inl e)
        clear hb349
        refine WL.nil ?_
        refine WX.seqN ?_
        refine WC.seq ?_
        refine WC.region ?_
        refine WL.op (d := 59) (.agg #[.int .u64 0, .string ⟨#[]⟩]) (k := ?_)
        refine WL.new (d := 10) (T := 55) #[.int .u64 0, .string ⟨#[]⟩] (k := fun b354 w355 g356 hb357 k358 => ?_)
        have z359 := Nat.le_trans K.size g356
        have n360 : b ≠ b354 := Nat.ne_of_lt (Nat.lt_of_lt_of_le (lt_of_heap hb352) g356)
        have n361 : ¬ S b354 := fun h => absurd (hd295.lt _ h) (Nat.not_lt.2 g356)
        have n362 : b3 ≠ b354 := Nat.ne_of_lt (Nat.lt_of_lt_of_le (lt_of_heap hb6) g356)
        have n363 : b20 ≠ b354 := Nat.ne_of_lt (Nat.lt_of_lt_of_le (lt_of_heap hb23) g356)
        have n364 : b34 ≠ b354 := Nat.ne_of_lt (Nat.lt_of_lt_of_le (lt_of_heap hb45) g356)
        have n365 : b297 ≠ b354 := Nat.ne_of_lt (Nat.lt_of_lt_of_le (lt_of_heap hb309) g356)
        replace hb352 := k358.heap hb352 id
        replace hd295 := hd295.adds k358
        replace hb6 := k358.heap hb6 id
        replace hb23 := k358.heap hb23 id
        replace hb45 := k358.heap hb45 id
        replace hb309 := k358.heap hb309 id
        replace K := K.trans (k358.any _)
        refine WL.store (v := .agg #[.int .u64 0, .string ⟨#[]⟩]) (i := 0) (cs' := #[.int .u64 0, .string ⟨#[]⟩]) hb357 (k := fun w366 hb367 k368 => ?_)
        replace hb352 := k368.heap hb352 n360
        replace hd295 := hd295.keeps k368 (fun i hi e => n361 (e ▸ hi))
        replace hb6 := k368.heap hb6 n362
        replace hb23 := k368.heap hb23 n363
        replace hb45 := k368.heap hb45 n364
        replace hb309 := k368.heap hb309 n365
        replace K := K.trans' k368 (fun i hi e => absurd (e ▸ hi) (Nat.not_lt.2 z359))
        clear hb357
        refine WL.nil ?_
        refine WX.seqN ?_
        refine WC.seq ?_
        refine WC.mixed (fun k => k = b3) 6 (k := fun w369 k370 => ?_)
        replace hb352 := k370.heap hb352 id
        replace hd295 := hd295.adds k370
        replace hb6 := k370.heap hb6 id
        replace hb23 := k370.heap hb23 id
        replace hb45 := k370.heap hb45 id
        replace hb309 := k370.heap hb309 id
        replace hb367 := k370.heap hb367 id
        replace K := K.trans (k370.any _)
        have KC := Keeps.refl (fun k => k = b3) w369
        have bh371 := hb352
        have bh372 := hb6
        have bh373 := hb23
        have bh374 := hb45
        have bh375 := hb309
        have bh376 := hb367
        have Kb := K
        refine WA.quietR 0 (d := 60) (.agg #[.int .u64 0, .string ⟨#[]⟩]) KC (exec_load (fun w_ k_ => ldN (T := 55) (i := 0) (m := 2) (l := [.int .u64 0, .string ⟨#[]⟩]) (k_.heap bh373 (Ne.symm n28)))) (hi := rfl) (k := ?_)
        refine WA.quietR 1 (d := 61) (.agg #[.int .u64 0, .string ⟨#[]⟩]) KC (exec_load (fun w_ k_ => ldN (T := 55) (i := 0) (m := 2) (l := [.int .u64 0, .string ⟨#[]⟩]) (k_.heap bh373 (Ne.symm n28)))) (hi := rfl) (k := ?_)
        refine WA.quietR 2 (d := 62) (.agg #[.int .u64 0, .string ⟨#[]⟩]) KC (exec_load (fun w_ k_ => ldN (T := 55) (i := 0) (m := 2) (l := [.int .u64 0, .string ⟨#[]⟩]) (k_.heap bh376 (Ne.symm n362)))) (hi := rfl) (k := ?_)
        refine WA.quietR 3 (d := 63) (.bool false) KC (exec_bin (fun w_ => neqSnap0 w_)) (hi := rfl) (k := ?_)
        refine WA.step 4 (hi := rfl) (k := ?_)
        refine WL.store (v := .agg #[.int .u64 0, .string ⟨#[]⟩]) (i := 0) (cs' := #[.int .u64 0, .string ⟨#[]⟩]) hb6 (k := fun w377 hb378 k379 => ?_)
        replace hb352 := k379.heap hb352 n9
        replace hd295 := hd295.keeps k379 (fun i hi e => n10 (e ▸ hi))
        replace hb23 := k379.heap hb23 (Ne.symm n28)
        replace hb45 := k379.heap hb45 (Ne.symm n42)
        replace hb309 := k379.heap hb309 (Ne.symm n305)
        replace hb367 := k379.heap hb367 (Ne.symm n362)
        replace K := K.trans' k379 (fun i hi e => absurd (e ▸ hi) (Nat.not_lt.2 z8))
        replace KC := KC.trans' k379 (fun i hi e => e)
        clear hb6
        refine WL.nil ?_
        refine WX.nxt KC ?_
        refine WA.quiet 5 (d := 3) (.bool false) KC (hi := rfl) (k := ?_)
        refine WA.step 6 (hi := rfl) (k := ?_)
        refine WL.op (d := 4) (.int .i64 0) (k := ?_)
        refine WL.nil ?_
        refine WX.nxtL ?_
        refine WA.done (k := ?_)
        clear KC
        refine WX.seqN ?_
        refine WC.ret ?_
        refine WX.ret (rs := [.cell 2 55, .tmp 3, .tmp 4]) [.agg #[.int .u64 0, .string ⟨#[]⟩], .bool false, .int .i64 0] (.tuple #[.agg #[.int .u64 0, .string ⟨#[]⟩], .bool false, .int .i64 0]) ⟨⟨_, (by kernel_rfl), ldN (T := 55) (i := 0) (m := 2) (l := [.int .u64 0, .string ⟨#[]⟩]) hb378⟩, (by kernel_rfl), (by kernel_rfl), trivial⟩ (k := ?_)
        exfalso; omega
    · have ph311 := of_bne_false h311
      refine WL.rw (t := 42) (v := .bool false) (congrArg Value.bool h311) (k := ?_)
      refine WL.skip (d := 43) (k := ?_)
      refine WL.skip (d := 44) (k := ?_)
      refine WL.skip (d := 45) (k := ?_)
      refine WL.skip (d := 46) (k := ?_)
      refine WL.skip (d := 47) (k := ?_)
      refine WL.op (d := 48) (.bool false) (k := ?_)
      refine WL.nil ?_
      refine WX.seqN ?_
      refine WC.condF (k := ?_)
      refine WC.skip ?_
      refine WX.blockN ?_
      refine WX.seqN ?_
      refine WC.region ?_
      refine WL.op (d := 51) (.int .i64 2) (k := ?_)
      refine WL.op (d := 23) (.int .i64 2) (k := ?_)
      refine WL.nil ?_
      refine WX.more ?_
      refine WC.seq ?_
      refine WC.region ?_
      refine WL.op (d := 24) (.bool false) (k := ?_)
      refine WL.nil ?_
      refine WX.seqN ?_
      refine WC.seq ?_
      refine WC.condF (k := ?_)
      refine WC.exit ?_
      refine WX.seqE ?_
      refine WX.seqE ?_
      refine WX.blockE ?_
      refine WX.seqN ?_
      refine WC.seq ?_
      refine WC.region ?_
      refine WL.op (d := 52) (.pointer (some ⟨b, 0, none⟩)) (k := ?_)
      refine WL.op (d := 53) (.pointer (some ⟨b, 0, none⟩)) (k := ?_)
      refine WL.op (d := 54) (.int .i64 (-1)) (k := ?_)
      refine WL.op (d := 55) (.pointer (some ⟨b, 0, none⟩)) (k := ?_)
      refine WL.op (d := 56) (.pointer (some ⟨b, 3, none⟩)) (k := ?_)
      refine WL.store (v := .bool true) (i := 3) (cs' := #[.pointer (some ⟨dk, 0, none⟩), .int .i64 at_, .int .i64 k, .bool true, .int .u64 ((SvR.nw r1 : Nat) : Int), .int .i64 (-1)]) hb294 (k := fun w380 hb381 k382 => ?_)
      replace hd295 := hd295.keeps k382 (fun i hi e => hnb (e ▸ hi))
      replace hb6 := k382.heap hb6 (Ne.symm n9)
      replace hb23 := k382.heap hb23 (Ne.symm n26)
      replace hb45 := k382.heap hb45 (Ne.symm n40)
      replace hb309 := k382.heap hb309 (Ne.symm n303)
      replace K := K.trans' k382 (fun i hi e => .inl e)
      clear hb294
      refine WL.op (d := 57) (.pointer (some ⟨b, 0, none⟩)) (k := ?_)
      refine WL.op (d := 58) (.pointer (some ⟨b, 5, none⟩)) (k := ?_)
      refine WL.store (v := .int .i64 (-1)) (i := 5) (cs' := #[.pointer (some ⟨dk, 0, none⟩), .int .i64 at_, .int .i64 k, .bool true, .int .u64 ((SvR.nw r1 : Nat) : Int), .int .i64 (-1)]) hb381 (k := fun w383 hb384 k385 => ?_)
      replace hd295 := hd295.keeps k385 (fun i hi e => hnb (e ▸ hi))
      replace hb6 := k385.heap hb6 (Ne.symm n9)
      replace hb23 := k385.heap hb23 (Ne.symm n26)
      replace hb45 := k385.heap hb45 (Ne.symm n40)
      replace hb309 := k385.heap hb309 (Ne.symm n303)
      replace K := K.trans' k385 (fun i hi e => .inl e)
      clear hb381
      refine WL.nil ?_
      refine WX.seqN ?_
      refine WC.seq ?_
      refine WC.region ?_
      refine WL.op (d := 59) (.agg #[.int .u64 0, .string ⟨#[]⟩]) (k := ?_)
      refine WL.new (d := 10) (T := 55) #[.int .u64 0, .string ⟨#[]⟩] (k := fun b386 w387 g388 hb389 k390 => ?_)
      have z391 := Nat.le_trans K.size g388
      have n392 : b ≠ b386 := Nat.ne_of_lt (Nat.lt_of_lt_of_le (lt_of_heap hb384) g388)
      have n393 : ¬ S b386 := fun h => absurd (hd295.lt _ h) (Nat.not_lt.2 g388)
      have n394 : b3 ≠ b386 := Nat.ne_of_lt (Nat.lt_of_lt_of_le (lt_of_heap hb6) g388)
      have n395 : b20 ≠ b386 := Nat.ne_of_lt (Nat.lt_of_lt_of_le (lt_of_heap hb23) g388)
      have n396 : b34 ≠ b386 := Nat.ne_of_lt (Nat.lt_of_lt_of_le (lt_of_heap hb45) g388)
      have n397 : b297 ≠ b386 := Nat.ne_of_lt (Nat.lt_of_lt_of_le (lt_of_heap hb309) g388)
      replace hb384 := k390.heap hb384 id
      replace hd295 := hd295.adds k390
      replace hb6 := k390.heap hb6 id
      replace hb23 := k390.heap hb23 id
      replace hb45 := k390.heap hb45 id
      replace hb309 := k390.heap hb309 id
      replace K := K.trans (k390.any _)
      refine WL.store (v := .agg #[.int .u64 0, .string ⟨#[]⟩]) (i := 0) (cs' := #[.int .u64 0, .string ⟨#[]⟩]) hb389 (k := fun w398 hb399 k400 => ?_)
      replace hb384 := k400.heap hb384 n392
      replace hd295 := hd295.keeps k400 (fun i hi e => n393 (e ▸ hi))
      replace hb6 := k400.heap hb6 n394
      replace hb23 := k400.heap hb23 n395
      replace hb45 := k400.heap hb45 n396
      replace hb309 := k400.heap hb309 n397
      replace K := K.trans' k400 (fun i hi e => absurd (e ▸ hi) (Nat.not_lt.2 z391))
      clear hb389
      refine WL.nil ?_
      refine WX.seqN ?_
      refine WC.seq ?_
      refine WC.mixed (fun k => k = b3) 6 (k := fun w401 k402 => ?_)
      replace hb384 := k402.heap hb384 id
      replace hd295 := hd295.adds k402
      replace hb6 := k402.heap hb6 id
      replace hb23 := k402.heap hb23 id
      replace hb45 := k402.heap hb45 id
      replace hb309 := k402.heap hb309 id
      replace hb399 := k402.heap hb399 id
      replace K := K.trans (k402.any _)
      have KC := Keeps.refl (fun k => k = b3) w401
      have bh403 := hb384
      have bh404 := hb6
      have bh405 := hb23
      have bh406 := hb45
      have bh407 := hb309
      have bh408 := hb399
      have Kb := K
      refine WA.quietR 0 (d := 60) (.agg #[.int .u64 0, .string ⟨#[]⟩]) KC (exec_load (fun w_ k_ => ldN (T := 55) (i := 0) (m := 2) (l := [.int .u64 0, .string ⟨#[]⟩]) (k_.heap bh405 (Ne.symm n28)))) (hi := rfl) (k := ?_)
      refine WA.quietR 1 (d := 61) (.agg #[.int .u64 0, .string ⟨#[]⟩]) KC (exec_load (fun w_ k_ => ldN (T := 55) (i := 0) (m := 2) (l := [.int .u64 0, .string ⟨#[]⟩]) (k_.heap bh405 (Ne.symm n28)))) (hi := rfl) (k := ?_)
      refine WA.quietR 2 (d := 62) (.agg #[.int .u64 0, .string ⟨#[]⟩]) KC (exec_load (fun w_ k_ => ldN (T := 55) (i := 0) (m := 2) (l := [.int .u64 0, .string ⟨#[]⟩]) (k_.heap bh408 (Ne.symm n394)))) (hi := rfl) (k := ?_)
      refine WA.quietR 3 (d := 63) (.bool false) KC (exec_bin (fun w_ => neqSnap0 w_)) (hi := rfl) (k := ?_)
      refine WA.step 4 (hi := rfl) (k := ?_)
      refine WL.store (v := .agg #[.int .u64 0, .string ⟨#[]⟩]) (i := 0) (cs' := #[.int .u64 0, .string ⟨#[]⟩]) hb6 (k := fun w409 hb410 k411 => ?_)
      replace hb384 := k411.heap hb384 n9
      replace hd295 := hd295.keeps k411 (fun i hi e => n10 (e ▸ hi))
      replace hb23 := k411.heap hb23 (Ne.symm n28)
      replace hb45 := k411.heap hb45 (Ne.symm n42)
      replace hb309 := k411.heap hb309 (Ne.symm n305)
      replace hb399 := k411.heap hb399 (Ne.symm n394)
      replace K := K.trans' k411 (fun i hi e => absurd (e ▸ hi) (Nat.not_lt.2 z8))
      replace KC := KC.trans' k411 (fun i hi e => e)
      clear hb6
      refine WL.nil ?_
      refine WX.nxt KC ?_
      refine WA.quiet 5 (d := 3) (.bool false) KC (hi := rfl) (k := ?_)
      refine WA.step 6 (hi := rfl) (k := ?_)
      refine WL.op (d := 4) (.int .i64 0) (k := ?_)
      refine WL.nil ?_
      refine WX.nxtL ?_
      refine WA.done (k := ?_)
      clear KC
      refine WX.seqN ?_
      refine WC.ret ?_
      refine WX.ret (rs := [.cell 2 55, .tmp 3, .tmp 4]) [.agg #[.int .u64 0, .string ⟨#[]⟩], .bool false, .int .i64 0] (.tuple #[.agg #[.int .u64 0, .string ⟨#[]⟩], .bool false, .int .i64 0]) ⟨⟨_, (by kernel_rfl), ldN (T := 55) (i := 0) (m := 2) (l := [.int .u64 0, .string ⟨#[]⟩]) hb410⟩, (by kernel_rfl), (by kernel_rfl), trivial⟩ (k := ?_)
      obtain ⟨q1_, q2_, q3_⟩ := pick_no (p := r0) (q := r1) (by omega) (by omega)
      rw [q1_, q2_, q3_]
      exact ⟨rfl, hb384, hd295, K⟩
set_option maxRecDepth 100000 in
set_option maxHeartbeats 4000000 in
theorem svRead_no0 {S : Nat → Prop} {b dk : Nat} {d : GDisk} {at_ k : Int} {v3 v4 v5 : Value} {w : World} (hb : w.heap[b]? = some (.cells #[.pointer (some ⟨dk, 0, none⟩), .int .i64 at_, .int .i64 k, v3, v4, v5] 81 (0, 0))) (hd : DiskAt S dk d w) (hnb : ¬ S b) {r0 r1 : SvR} (a0 : 0 ≤ at_) (a1 : at_ ≤ 1024) (k0 : 0 ≤ k) (k1 : k ≤ 64) (sA : slotGo (at_ + 0) k.toNat 0 true 0 [] 0 d = r0) (sB : slotGo (at_ + k) k.toNat 0 true 0 [] r0.nw r0.d = r1) (bA : ¬ r0.bad = 0) : Calls Tryz.prog 23 #[.pointer (some ⟨b, 0, none⟩)] w fun e w' => e = .returned (.tuple #[.agg #[.int .u64 0, .string ⟨#[]⟩], .bool false, .int .i64 r0.bad]) ∧ w'.heap[b]? = some (.cells #[.pointer (some ⟨dk, 0, none⟩), .int .i64 at_, .int .i64 k, .bool false, .int .u64 0, .int .i64 (-1)] 81 (0, 0)) ∧ DiskAt S dk (r0.d) w' ∧ Keeps (fun k => k = b ∨ S k) w w' := by
  have K : Keeps (fun k => k = b ∨ S k) w w := Keeps.refl _ w
  have lk0 : ∀ k, S k → S k ∨ w.heap.size ≤ k := fun k h => .inl h
  have h1 : ((SvR.bad r0) != 0) = true := bne_iff_ne.2 bA
  have ph1 := bne_iff_ne.1 h1
  refine Calls.start Tryz.func23 rfl (by kernel_rfl) ?_
  refine WC.seq ?_
  refine WC.region ?_
  refine WL.new (d := 2) (T := 55) #[.int .u64 0, .string ⟨#[]⟩] (k := fun b2 w3 g4 hb5 k6 => ?_)
  have z7 := Nat.le_trans K.size g4
  have n8 : b ≠ b2 := Nat.ne_of_lt (Nat.lt_of_lt_of_le (lt_of_heap hb) g4)
  have n9 : ¬ S b2 := fun h => absurd (hd.lt _ h) (Nat.not_lt.2 g4)
  replace hb := k6.heap hb id
  replace hd := hd.adds k6
  replace K := K.trans (k6.any _)
  refine WL.op (d := 3) (.bool false) (k := ?_)
  refine WL.op (d := 4) (.int .i64 0) (k := ?_)
  refine WL.nil ?_
  refine WX.seqN ?_
  refine WC.seq ?_
  refine WC.seq ?_
  refine WC.region ?_
  refine WL.op (d := 11) (.pointer (some ⟨b, 0, none⟩)) (k := ?_)
  refine WL.op (d := 12) (.bool false) (k := ?_)
  refine WL.nil ?_
  refine WX.seqN ?_
  refine WC.condF (k := ?_)
  refine WC.skip ?_
  refine WX.seqN ?_
  refine WC.seq ?_
  refine WC.region ?_
  refine WL.op (d := 14) (.pointer (some ⟨b, 0, none⟩)) (k := ?_)
  refine WL.op (d := 15) (.pointer (some ⟨b, 0, none⟩)) (k := ?_)
  refine WL.op (d := 16) (.pointer (some ⟨b, 0, none⟩)) (k := ?_)
  refine WL.op (d := 17) (.pointer (some ⟨b, 0, none⟩)) (k := ?_)
  refine WL.op (d := 18) (.pointer (some ⟨b, 3, none⟩)) (k := ?_)
  refine WL.store (v := .bool false) (i := 3) (cs' := #[.pointer (some ⟨dk, 0, none⟩), .int .i64 at_, .int .i64 k, .bool false, v4, v5]) hb (k := fun w10 hb11 k12 => ?_)
  replace hd := hd.keeps k12 (fun i hi e => hnb (e ▸ hi))
  replace hb5 := k12.heap hb5 (Ne.symm n8)
  replace K := K.trans' k12 (fun i hi e => .inl e)
  clear hb
  refine WL.op (d := 19) (.pointer (some ⟨b, 0, none⟩)) (k := ?_)
  refine WL.op (d := 20) (.pointer (some ⟨b, 4, none⟩)) (k := ?_)
  refine WL.store (v := .int .u64 0) (i := 4) (cs' := #[.pointer (some ⟨dk, 0, none⟩), .int .i64 at_, .int .i64 k, .bool false, .int .u64 0, v5]) hb11 (k := fun w13 hb14 k15 => ?_)
  replace hd := hd.keeps k15 (fun i hi e => hnb (e ▸ hi))
  replace hb5 := k15.heap hb5 (Ne.symm n8)
  replace K := K.trans' k15 (fun i hi e => .inl e)
  clear hb11
  refine WL.op (d := 21) (.pointer (some ⟨b, 0, none⟩)) (k := ?_)
  refine WL.op (d := 22) (.pointer (some ⟨b, 5, none⟩)) (k := ?_)
  refine WL.store (v := .int .i64 (-1)) (i := 5) (cs' := #[.pointer (some ⟨dk, 0, none⟩), .int .i64 at_, .int .i64 k, .bool false, .int .u64 0, .int .i64 (-1)]) hb14 (k := fun w16 hb17 k18 => ?_)
  replace hd := hd.keeps k18 (fun i hi e => hnb (e ▸ hi))
  replace hb5 := k18.heap hb5 (Ne.symm n8)
  replace K := K.trans' k18 (fun i hi e => .inl e)
  clear hb14
  refine WL.nil ?_
  refine WX.seqN ?_
  refine WC.seq ?_
  refine WC.region ?_
  refine WL.new (d := 5) (T := 55) #[.int .u64 0, .string ⟨#[]⟩] (k := fun b19 w20 g21 hb22 k23 => ?_)
  have z24 := Nat.le_trans K.size g21
  have n25 : b ≠ b19 := Nat.ne_of_lt (Nat.lt_of_lt_of_le (lt_of_heap hb17) g21)
  have n26 : ¬ S b19 := fun h => absurd (hd.lt _ h) (Nat.not_lt.2 g21)
  have n27 : b2 ≠ b19 := Nat.ne_of_lt (Nat.lt_of_lt_of_le (lt_of_heap hb5) g21)
  replace hb17 := k23.heap hb17 id
  replace hd := hd.adds k23
  replace hb5 := k23.heap hb5 id
  replace K := K.trans (k23.any _)
  refine WL.nil ?_
  refine WX.seqN ?_
  refine WC.seq ?_
  refine WC.region ?_
  refine WL.op (d := 6) (.int .i64 (-1)) (k := ?_)
  refine WL.nil ?_
  refine WX.seqN ?_
  refine WC.seq ?_
  refine WC.seq ?_
  refine WC.region ?_
  refine WL.op (d := 23) (.int .i64 0) (k := ?_)
  refine WL.nil ?_
  refine WX.seqN ?_
  refine WC.block ?_
  refine WC.rounds 2 ?_
  refine WC.seq ?_
  refine WC.region ?_
  refine WL.op (d := 24) (.bool true) (k := ?_)
  refine WL.nil ?_
  refine WX.seqN ?_
  refine WC.seq ?_
  refine WC.condT (k := ?_)
  refine WC.skip ?_
  refine WX.seqN ?_
  refine WC.seq ?_
  refine WC.block ?_
  refine WC.seq ?_
  refine WC.region ?_
  refine WL.op (d := 25) (.int .i64 0) (k := ?_)
  refine WL.op (d := 7) (.int .i64 0) (k := ?_)
  refine WL.nil ?_
  refine WX.seqN ?_
  refine WC.seq ?_
  refine WC.region ?_
  refine WL.op (d := 27) (.pointer (some ⟨b, 0, none⟩)) (k := ?_)
  refine WL.op (d := 28) (.int .i64 0) (k := ?_)
  refine WL.callG (d := 29) (f := 37) (args := #[.pointer (some ⟨b, 0, none⟩), .int .i64 0]) (svSlot_r (slot := 0) (sk := 0) (k := k) (nw := 0) (by omega) (by omega) (by omega) (by omega) (by omega) (by omega) (by omega) hb17 hd hnb (by omega) sA) (k := fun e_ w29 h_ => ?_)
  obtain ⟨rfl, hb30, hd31, k32⟩ := h_
  refine ⟨_, rfl, ?_⟩
  replace K := K.trans' k32 (fun i hi e => e.elim (fun e => .inl e) (fun e => (lk0 i e).elim (fun h => .inr h) (fun h => absurd hi (Nat.not_lt.2 h))))
  replace hb5 := k32.heap hb5 (not_or.2 ⟨Ne.symm n8, n9⟩)
  replace hb22 := k32.heap hb22 (not_or.2 ⟨Ne.symm n25, n26⟩)
  clear hb17 hd
  have rl28 := SvR.e_lt (by omega) sA
  refine WL.op (d := 26) (.tuple #[.agg #[.int .u64 ((SvR.e r0 : Nat) : Int), .string ⟨(SvR.t r0).toArray⟩], .int .i64 (SvR.bad r0)]) (k := ?_)
  refine WL.op (d := 30) (.agg #[.int .u64 ((SvR.e r0 : Nat) : Int), .string ⟨(SvR.t r0).toArray⟩]) (k := ?_)
  refine WL.op (d := 31) (.int .i64 (SvR.bad r0)) (k := ?_)
  refine WL.new (d := 8) (T := 55) #[.int .u64 0, .string ⟨#[]⟩] (k := fun b33 w34 g35 hb36 k37 => ?_)
  have z38 := Nat.le_trans K.size g35
  have n39 : b ≠ b33 := Nat.ne_of_lt (Nat.lt_of_lt_of_le (lt_of_heap hb30) g35)
  have n40 : ¬ S b33 := fun h => absurd (hd31.lt _ h) (Nat.not_lt.2 g35)
  have n41 : b2 ≠ b33 := Nat.ne_of_lt (Nat.lt_of_lt_of_le (lt_of_heap hb5) g35)
  have n42 : b19 ≠ b33 := Nat.ne_of_lt (Nat.lt_of_lt_of_le (lt_of_heap hb22) g35)
  replace hb30 := k37.heap hb30 id
  replace hd31 := hd31.adds k37
  replace hb5 := k37.heap hb5 id
  replace hb22 := k37.heap hb22 id
  replace K := K.trans (k37.any _)
  refine WL.store (v := .agg #[.int .u64 ((SvR.e r0 : Nat) : Int), .string ⟨(SvR.t r0).toArray⟩]) (i := 0) (cs' := #[.int .u64 ((SvR.e r0 : Nat) : Int), .string ⟨(SvR.t r0).toArray⟩]) hb36 (k := fun w43 hb44 k45 => ?_)
  replace hb30 := k45.heap hb30 n39
  replace hd31 := hd31.keeps k45 (fun i hi e => n40 (e ▸ hi))
  replace hb5 := k45.heap hb5 n41
  replace hb22 := k45.heap hb22 n42
  replace K := K.trans' k45 (fun i hi e => absurd (e ▸ hi) (Nat.not_lt.2 z38))
  clear hb36
  refine WL.op (d := 9) (.int .i64 (SvR.bad r0)) (k := ?_)
  refine WL.nil ?_
  refine WX.seqN ?_
  refine WC.seq ?_
  refine WC.seq ?_
  refine WC.region ?_
  refine WL.op (d := 32) (.int .i64 (SvR.bad r0)) (k := ?_)
  refine WL.op (d := 33) (.bool ((SvR.bad r0) != 0)) (k := ?_)
  refine WL.nil ?_
  refine WX.seqN ?_
  refine WC.rw (t := 33) (v := .bool true) (congrArg Value.bool h1) (k := ?_)
  refine WC.condT (k := ?_)
  refine WC.seq ?_
  refine WC.region ?_
  refine WL.op (d := 34) (.pointer (some ⟨b, 0, none⟩)) (k := ?_)
  refine WL.op (d := 35) (.pointer (some ⟨b, 0, none⟩)) (k := ?_)
  refine WL.op (d := 36) (.pointer (some ⟨b, 4, none⟩)) (k := ?_)
  refine WL.store (v := .int .u64 0) (i := 4) (cs' := #[.pointer (some ⟨dk, 0, none⟩), .int .i64 at_, .int .i64 k, .bool false, .int .u64 0, .int .i64 (-1)]) hb30 (k := fun w46 hb47 k48 => ?_)
  replace hd31 := hd31.keeps k48 (fun i hi e => hnb (e ▸ hi))
  replace hb5 := k48.heap hb5 (Ne.symm n8)
  replace hb22 := k48.heap hb22 (Ne.symm n25)
  replace hb44 := k48.heap hb44 (Ne.symm n39)
  replace K := K.trans' k48 (fun i hi e => .inl e)
  clear hb30
  refine WL.nil ?_
  refine WX.seqN ?_
  refine WC.seq ?_
  refine WC.region ?_
  refine WL.op (d := 37) (.agg #[.int .u64 0, .string ⟨#[]⟩]) (k := ?_)
  refine WL.op (d := 38) (.int .i64 (SvR.bad r0)) (k := ?_)
  refine WL.store (v := .agg #[.int .u64 0, .string ⟨#[]⟩]) (i := 0) (cs' := #[.int .u64 0, .string ⟨#[]⟩]) hb5 (k := fun w49 hb50 k51 => ?_)
  replace hb47 := k51.heap hb47 n8
  replace hd31 := hd31.keeps k51 (fun i hi e => n9 (e ▸ hi))
  replace hb22 := k51.heap hb22 (Ne.symm n27)
  replace hb44 := k51.heap hb44 (Ne.symm n41)
  replace K := K.trans' k51 (fun i hi e => absurd (e ▸ hi) (Nat.not_lt.2 z7))
  clear hb5
  refine WL.op (d := 3) (.bool false) (k := ?_)
  refine WL.op (d := 4) (.int .i64 (SvR.bad r0)) (k := ?_)
  refine WL.nil ?_
  refine WX.seqN ?_
  refine WC.ret ?_
  refine WX.seqR ?_
  refine WX.blockR ?_
  refine WX.seqR ?_
  refine WX.seqR ?_
  refine WX.blockR ?_
  refine WX.seqR ?_
  refine WX.ret (rs := [.cell 2 55, .tmp 3, .tmp 4]) [.agg #[.int .u64 0, .string ⟨#[]⟩], .bool false, .int .i64 (SvR.bad r0)] (.tuple #[.agg #[.int .u64 0, .string ⟨#[]⟩], .bool false, .int .i64 (SvR.bad r0)]) ⟨⟨_, (by kernel_rfl), ldN (T := 55) (i := 0) (m := 2) (l := [.int .u64 0, .string ⟨#[]⟩]) hb50⟩, (by kernel_rfl), (by kernel_rfl), trivial⟩ (k := ?_)
  exact ⟨rfl, hb47, hd31, K⟩
set_option maxRecDepth 100000 in
set_option maxHeartbeats 4000000 in
theorem svRead_no1 {S : Nat → Prop} {b dk : Nat} {d : GDisk} {at_ k : Int} {v3 v4 v5 : Value} {w : World} (hb : w.heap[b]? = some (.cells #[.pointer (some ⟨dk, 0, none⟩), .int .i64 at_, .int .i64 k, v3, v4, v5] 81 (0, 0))) (hd : DiskAt S dk d w) (hnb : ¬ S b) {r0 r1 : SvR} (a0 : 0 ≤ at_) (a1 : at_ ≤ 1024) (k0 : 0 ≤ k) (k1 : k ≤ 64) (sA : slotGo (at_ + 0) k.toNat 0 true 0 [] 0 d = r0) (sB : slotGo (at_ + k) k.toNat 0 true 0 [] r0.nw r0.d = r1) (bA : r0.bad = 0) (bB : ¬ r1.bad = 0) : Calls Tryz.prog 23 #[.pointer (some ⟨b, 0, none⟩)] w fun e w' => e = .returned (.tuple #[.agg #[.int .u64 0, .string ⟨#[]⟩], .bool false, .int .i64 r1.bad]) ∧ w'.heap[b]? = some (.cells #[.pointer (some ⟨dk, 0, none⟩), .int .i64 at_, .int .i64 k, .bool false, .int .u64 0, .int .i64 (-1)] 81 (0, 0)) ∧ DiskAt S dk (r1.d) w' ∧ Keeps (fun k => k = b ∨ S k) w w' := by
  have K : Keeps (fun k => k = b ∨ S k) w w := Keeps.refl _ w
  have lk0 : ∀ k, S k → S k ∨ w.heap.size ≤ k := fun k h => .inl h
  have h1 : ((SvR.bad r0) != 0) = false := (by rw [bA]; rfl)
  have ph1 := of_bne_false h1
  have h2 : ((SvR.bad r1) != 0) = true := bne_iff_ne.2 bB
  have ph2 := bne_iff_ne.1 h2
  refine Calls.start Tryz.func23 rfl (by kernel_rfl) ?_
  refine WC.seq ?_
  refine WC.region ?_
  refine WL.new (d := 2) (T := 55) #[.int .u64 0, .string ⟨#[]⟩] (k := fun b3 w4 g5 hb6 k7 => ?_)
  have z8 := Nat.le_trans K.size g5
  have n9 : b ≠ b3 := Nat.ne_of_lt (Nat.lt_of_lt_of_le (lt_of_heap hb) g5)
  have n10 : ¬ S b3 := fun h => absurd (hd.lt _ h) (Nat.not_lt.2 g5)
  replace hb := k7.heap hb id
  replace hd := hd.adds k7
  replace K := K.trans (k7.any _)
  refine WL.op (d := 3) (.bool false) (k := ?_)
  refine WL.op (d := 4) (.int .i64 0) (k := ?_)
  refine WL.nil ?_
  refine WX.seqN ?_
  refine WC.seq ?_
  refine WC.seq ?_
  refine WC.region ?_
  refine WL.op (d := 11) (.pointer (some ⟨b, 0, none⟩)) (k := ?_)
  refine WL.op (d := 12) (.bool false) (k := ?_)
  refine WL.nil ?_
  refine WX.seqN ?_
  refine WC.condF (k := ?_)
  refine WC.skip ?_
  refine WX.seqN ?_
  refine WC.seq ?_
  refine WC.region ?_
  refine WL.op (d := 14) (.pointer (some ⟨b, 0, none⟩)) (k := ?_)
  refine WL.op (d := 15) (.pointer (some ⟨b, 0, none⟩)) (k := ?_)
  refine WL.op (d := 16) (.pointer (some ⟨b, 0, none⟩)) (k := ?_)
  refine WL.op (d := 17) (.pointer (some ⟨b, 0, none⟩)) (k := ?_)
  refine WL.op (d := 18) (.pointer (some ⟨b, 3, none⟩)) (k := ?_)
  refine WL.store (v := .bool false) (i := 3) (cs' := #[.pointer (some ⟨dk, 0, none⟩), .int .i64 at_, .int .i64 k, .bool false, v4, v5]) hb (k := fun w11 hb12 k13 => ?_)
  replace hd := hd.keeps k13 (fun i hi e => hnb (e ▸ hi))
  replace hb6 := k13.heap hb6 (Ne.symm n9)
  replace K := K.trans' k13 (fun i hi e => .inl e)
  clear hb
  refine WL.op (d := 19) (.pointer (some ⟨b, 0, none⟩)) (k := ?_)
  refine WL.op (d := 20) (.pointer (some ⟨b, 4, none⟩)) (k := ?_)
  refine WL.store (v := .int .u64 0) (i := 4) (cs' := #[.pointer (some ⟨dk, 0, none⟩), .int .i64 at_, .int .i64 k, .bool false, .int .u64 0, v5]) hb12 (k := fun w14 hb15 k16 => ?_)
  replace hd := hd.keeps k16 (fun i hi e => hnb (e ▸ hi))
  replace hb6 := k16.heap hb6 (Ne.symm n9)
  replace K := K.trans' k16 (fun i hi e => .inl e)
  clear hb12
  refine WL.op (d := 21) (.pointer (some ⟨b, 0, none⟩)) (k := ?_)
  refine WL.op (d := 22) (.pointer (some ⟨b, 5, none⟩)) (k := ?_)
  refine WL.store (v := .int .i64 (-1)) (i := 5) (cs' := #[.pointer (some ⟨dk, 0, none⟩), .int .i64 at_, .int .i64 k, .bool false, .int .u64 0, .int .i64 (-1)]) hb15 (k := fun w17 hb18 k19 => ?_)
  replace hd := hd.keeps k19 (fun i hi e => hnb (e ▸ hi))
  replace hb6 := k19.heap hb6 (Ne.symm n9)
  replace K := K.trans' k19 (fun i hi e => .inl e)
  clear hb15
  refine WL.nil ?_
  refine WX.seqN ?_
  refine WC.seq ?_
  refine WC.region ?_
  refine WL.new (d := 5) (T := 55) #[.int .u64 0, .string ⟨#[]⟩] (k := fun b20 w21 g22 hb23 k24 => ?_)
  have z25 := Nat.le_trans K.size g22
  have n26 : b ≠ b20 := Nat.ne_of_lt (Nat.lt_of_lt_of_le (lt_of_heap hb18) g22)
  have n27 : ¬ S b20 := fun h => absurd (hd.lt _ h) (Nat.not_lt.2 g22)
  have n28 : b3 ≠ b20 := Nat.ne_of_lt (Nat.lt_of_lt_of_le (lt_of_heap hb6) g22)
  replace hb18 := k24.heap hb18 id
  replace hd := hd.adds k24
  replace hb6 := k24.heap hb6 id
  replace K := K.trans (k24.any _)
  refine WL.nil ?_
  refine WX.seqN ?_
  refine WC.seq ?_
  refine WC.region ?_
  refine WL.op (d := 6) (.int .i64 (-1)) (k := ?_)
  refine WL.nil ?_
  refine WX.seqN ?_
  refine WC.seq ?_
  refine WC.seq ?_
  refine WC.region ?_
  refine WL.op (d := 23) (.int .i64 0) (k := ?_)
  refine WL.nil ?_
  refine WX.seqN ?_
  refine WC.block ?_
  refine WC.rounds 2 ?_
  refine WC.seq ?_
  refine WC.region ?_
  refine WL.op (d := 24) (.bool true) (k := ?_)
  refine WL.nil ?_
  refine WX.seqN ?_
  refine WC.seq ?_
  refine WC.condT (k := ?_)
  refine WC.skip ?_
  refine WX.seqN ?_
  refine WC.seq ?_
  refine WC.block ?_
  refine WC.seq ?_
  refine WC.region ?_
  refine WL.op (d := 25) (.int .i64 0) (k := ?_)
  refine WL.op (d := 7) (.int .i64 0) (k := ?_)
  refine WL.nil ?_
  refine WX.seqN ?_
  refine WC.seq ?_
  refine WC.region ?_
  refine WL.op (d := 27) (.pointer (some ⟨b, 0, none⟩)) (k := ?_)
  refine WL.op (d := 28) (.int .i64 0) (k := ?_)
  refine WL.callG (d := 29) (f := 37) (args := #[.pointer (some ⟨b, 0, none⟩), .int .i64 0]) (svSlot_r (slot := 0) (sk := 0) (k := k) (nw := 0) (by omega) (by omega) (by omega) (by omega) (by omega) (by omega) (by omega) hb18 hd hnb (by omega) sA) (k := fun e_ w30 h_ => ?_)
  obtain ⟨rfl, hb31, hd32, k33⟩ := h_
  refine ⟨_, rfl, ?_⟩
  replace K := K.trans' k33 (fun i hi e => e.elim (fun e => .inl e) (fun e => (lk0 i e).elim (fun h => .inr h) (fun h => absurd hi (Nat.not_lt.2 h))))
  replace hb6 := k33.heap hb6 (not_or.2 ⟨Ne.symm n9, n10⟩)
  replace hb23 := k33.heap hb23 (not_or.2 ⟨Ne.symm n26, n27⟩)
  clear hb18 hd
  have rl29 := SvR.e_lt (by omega) sA
  refine WL.op (d := 26) (.tuple #[.agg #[.int .u64 ((SvR.e r0 : Nat) : Int), .string ⟨(SvR.t r0).toArray⟩], .int .i64 (SvR.bad r0)]) (k := ?_)
  refine WL.op (d := 30) (.agg #[.int .u64 ((SvR.e r0 : Nat) : Int), .string ⟨(SvR.t r0).toArray⟩]) (k := ?_)
  refine WL.op (d := 31) (.int .i64 (SvR.bad r0)) (k := ?_)
  refine WL.new (d := 8) (T := 55) #[.int .u64 0, .string ⟨#[]⟩] (k := fun b34 w35 g36 hb37 k38 => ?_)
  have z39 := Nat.le_trans K.size g36
  have n40 : b ≠ b34 := Nat.ne_of_lt (Nat.lt_of_lt_of_le (lt_of_heap hb31) g36)
  have n41 : ¬ S b34 := fun h => absurd (hd32.lt _ h) (Nat.not_lt.2 g36)
  have n42 : b3 ≠ b34 := Nat.ne_of_lt (Nat.lt_of_lt_of_le (lt_of_heap hb6) g36)
  have n43 : b20 ≠ b34 := Nat.ne_of_lt (Nat.lt_of_lt_of_le (lt_of_heap hb23) g36)
  replace hb31 := k38.heap hb31 id
  replace hd32 := hd32.adds k38
  replace hb6 := k38.heap hb6 id
  replace hb23 := k38.heap hb23 id
  replace K := K.trans (k38.any _)
  refine WL.store (v := .agg #[.int .u64 ((SvR.e r0 : Nat) : Int), .string ⟨(SvR.t r0).toArray⟩]) (i := 0) (cs' := #[.int .u64 ((SvR.e r0 : Nat) : Int), .string ⟨(SvR.t r0).toArray⟩]) hb37 (k := fun w44 hb45 k46 => ?_)
  replace hb31 := k46.heap hb31 n40
  replace hd32 := hd32.keeps k46 (fun i hi e => n41 (e ▸ hi))
  replace hb6 := k46.heap hb6 n42
  replace hb23 := k46.heap hb23 n43
  replace K := K.trans' k46 (fun i hi e => absurd (e ▸ hi) (Nat.not_lt.2 z39))
  clear hb37
  refine WL.op (d := 9) (.int .i64 (SvR.bad r0)) (k := ?_)
  refine WL.nil ?_
  refine WX.seqN ?_
  refine WC.seq ?_
  refine WC.seq ?_
  refine WC.region ?_
  refine WL.op (d := 32) (.int .i64 (SvR.bad r0)) (k := ?_)
  refine WL.op (d := 33) (.bool ((SvR.bad r0) != 0)) (k := ?_)
  refine WL.nil ?_
  refine WX.seqN ?_
  refine WC.rw (t := 33) (v := .bool false) (congrArg Value.bool h1) (k := ?_)
  refine WC.condF (k := ?_)
  refine WC.skip ?_
  refine WX.seqN ?_
  refine WC.seq ?_
  refine WC.region ?_
  refine WL.op (d := 39) (.pointer (some ⟨b34, 0, none⟩)) (k := ?_)
  refine WL.load (v := .int .u64 ((SvR.e r0 : Nat) : Int)) (ld1 (T := 41) (i := 0) hb45) (k := ?_)
  refine WL.op (d := 41) (.bool (((SvR.e r0 : Nat) : Int) != 0)) (k := ?_)
  refine WL.op (d := 42) (.bool (((SvR.e r0 : Nat) : Int) != 0)) (k := ?_)
  refine bsplit (((SvR.e r0 : Nat) : Int) != 0) (fun h47 => ?_) (fun h47 => ?_)
  · have ph47 := bne_iff_ne.1 h47
    refine WL.rw (t := 42) (v := .bool true) (congrArg Value.bool h47) (k := ?_)
    refine WL.op (d := 43) (.pointer (some ⟨b34, 0, none⟩)) (k := ?_)
    refine WL.load (v := .int .u64 ((SvR.e r0 : Nat) : Int)) (ld1 (T := 41) (i := 0) hb45) (k := ?_)
    refine WL.op (d := 45) (.pointer (some ⟨b20, 0, none⟩)) (k := ?_)
    refine WL.load (v := .int .u64 0) (ld1 (T := 41) (i := 0) hb23) (k := ?_)
    refine WL.op (d := 47) (.bool (decide (((SvR.e r0 : Nat) : Int) ≥ 0))) (k := ?_)
    refine WL.op (d := 48) (.bool (decide (((SvR.e r0 : Nat) : Int) ≥ 0))) (k := ?_)
    refine WL.nil ?_
    refine WX.seqN ?_
    refine WC.cond (b := decide (((SvR.e r0 : Nat) : Int) ≥ 0)) (ht := fun h48 => ?_) (hf := fun h48 => ?_)
    · have ph48 := of_decide_eq_true h48
      refine WC.region ?_
      refine WL.load (v := .agg #[.int .u64 ((SvR.e r0 : Nat) : Int), .string ⟨(SvR.t r0).toArray⟩]) (ldN (T := 55) (i := 0) (m := 2) (l := [.int .u64 ((SvR.e r0 : Nat) : Int), .string ⟨(SvR.t r0).toArray⟩]) hb45) (k := ?_)
      refine WL.op (d := 50) (.int .i64 0) (k := ?_)
      refine WL.store (v := .agg #[.int .u64 ((SvR.e r0 : Nat) : Int), .string ⟨(SvR.t r0).toArray⟩]) (i := 0) (cs' := #[.int .u64 ((SvR.e r0 : Nat) : Int), .string ⟨(SvR.t r0).toArray⟩]) hb23 (k := fun w49 hb50 k51 => ?_)
      replace hb31 := k51.heap hb31 n26
      replace hd32 := hd32.keeps k51 (fun i hi e => n27 (e ▸ hi))
      replace hb6 := k51.heap hb6 n28
      replace hb45 := k51.heap hb45 (Ne.symm n43)
      replace K := K.trans' k51 (fun i hi e => absurd (e ▸ hi) (Nat.not_lt.2 z25))
      clear hb23
      refine WL.op (d := 6) (.int .i64 0) (k := ?_)
      refine WL.nil ?_
      refine WX.blockN ?_
      refine WX.seqN ?_
      refine WC.region ?_
      refine WL.op (d := 51) (.int .i64 1) (k := ?_)
      refine WL.op (d := 23) (.int .i64 1) (k := ?_)
      refine WL.nil ?_
      refine WX.more ?_
      refine WC.seq ?_
      refine WC.region ?_
      refine WL.op (d := 24) (.bool true) (k := ?_)
      refine WL.nil ?_
      refine WX.seqN ?_
      refine WC.seq ?_
      refine WC.condT (k := ?_)
      refine WC.skip ?_
      refine WX.seqN ?_
      refine WC.seq ?_
      refine WC.block ?_
      refine WC.seq ?_
      refine WC.region ?_
      refine WL.op (d := 25) (.int .i64 1) (k := ?_)
      refine WL.op (d := 7) (.int .i64 1) (k := ?_)
      refine WL.nil ?_
      refine WX.seqN ?_
      refine WC.seq ?_
      refine WC.region ?_
      refine WL.op (d := 27) (.pointer (some ⟨b, 0, none⟩)) (k := ?_)
      refine WL.op (d := 28) (.int .i64 1) (k := ?_)
      refine WL.callG (d := 29) (f := 37) (args := #[.pointer (some ⟨b, 0, none⟩), .int .i64 1]) (svSlot_r (slot := 1) (sk := k) (k := k) (nw := SvR.nw r0) (by omega) (by omega) (by omega) (by omega) (by omega) (by omega) (by omega) hb31 hd32 hnb (by omega) sB) (k := fun e_ w53 h_ => ?_)
      obtain ⟨rfl, hb54, hd55, k56⟩ := h_
      refine ⟨_, rfl, ?_⟩
      replace K := K.trans' k56 (fun i hi e => e.elim (fun e => .inl e) (fun e => (lk0 i e).elim (fun h => .inr h) (fun h => absurd hi (Nat.not_lt.2 h))))
      replace hb6 := k56.heap hb6 (not_or.2 ⟨Ne.symm n9, n10⟩)
      replace hb50 := k56.heap hb50 (not_or.2 ⟨Ne.symm n26, n27⟩)
      replace hb45 := k56.heap hb45 (not_or.2 ⟨Ne.symm n40, n41⟩)
      clear hb31 hd32
      have rl52 := SvR.e_lt (by omega) sB
      refine WL.op (d := 26) (.tuple #[.agg #[.int .u64 ((SvR.e r1 : Nat) : Int), .string ⟨(SvR.t r1).toArray⟩], .int .i64 (SvR.bad r1)]) (k := ?_)
      refine WL.op (d := 30) (.agg #[.int .u64 ((SvR.e r1 : Nat) : Int), .string ⟨(SvR.t r1).toArray⟩]) (k := ?_)
      refine WL.op (d := 31) (.int .i64 (SvR.bad r1)) (k := ?_)
      refine WL.new (d := 8) (T := 55) #[.int .u64 0, .string ⟨#[]⟩] (k := fun b57 w58 g59 hb60 k61 => ?_)
      have z62 := Nat.le_trans K.size g59
      have n63 : b ≠ b57 := Nat.ne_of_lt (Nat.lt_of_lt_of_le (lt_of_heap hb54) g59)
      have n64 : ¬ S b57 := fun h => absurd (hd55.lt _ h) (Nat.not_lt.2 g59)
      have n65 : b3 ≠ b57 := Nat.ne_of_lt (Nat.lt_of_lt_of_le (lt_of_heap hb6) g59)
      have n66 : b20 ≠ b57 := Nat.ne_of_lt (Nat.lt_of_lt_of_le (lt_of_heap hb50) g59)
      have n67 : b34 ≠ b57 := Nat.ne_of_lt (Nat.lt_of_lt_of_le (lt_of_heap hb45) g59)
      replace hb54 := k61.heap hb54 id
      replace hd55 := hd55.adds k61
      replace hb6 := k61.heap hb6 id
      replace hb50 := k61.heap hb50 id
      replace hb45 := k61.heap hb45 id
      replace K := K.trans (k61.any _)
      refine WL.store (v := .agg #[.int .u64 ((SvR.e r1 : Nat) : Int), .string ⟨(SvR.t r1).toArray⟩]) (i := 0) (cs' := #[.int .u64 ((SvR.e r1 : Nat) : Int), .string ⟨(SvR.t r1).toArray⟩]) hb60 (k := fun w68 hb69 k70 => ?_)
      replace hb54 := k70.heap hb54 n63
      replace hd55 := hd55.keeps k70 (fun i hi e => n64 (e ▸ hi))
      replace hb6 := k70.heap hb6 n65
      replace hb50 := k70.heap hb50 n66
      replace hb45 := k70.heap hb45 n67
      replace K := K.trans' k70 (fun i hi e => absurd (e ▸ hi) (Nat.not_lt.2 z62))
      clear hb60
      refine WL.op (d := 9) (.int .i64 (SvR.bad r1)) (k := ?_)
      refine WL.nil ?_
      refine WX.seqN ?_
      refine WC.seq ?_
      refine WC.seq ?_
      refine WC.region ?_
      refine WL.op (d := 32) (.int .i64 (SvR.bad r1)) (k := ?_)
      refine WL.op (d := 33) (.bool ((SvR.bad r1) != 0)) (k := ?_)
      refine WL.nil ?_
      refine WX.seqN ?_
      refine WC.rw (t := 33) (v := .bool true) (congrArg Value.bool h2) (k := ?_)
      refine WC.condT (k := ?_)
      refine WC.seq ?_
      refine WC.region ?_
      refine WL.op (d := 34) (.pointer (some ⟨b, 0, none⟩)) (k := ?_)
      refine WL.op (d := 35) (.pointer (some ⟨b, 0, none⟩)) (k := ?_)
      refine WL.op (d := 36) (.pointer (some ⟨b, 4, none⟩)) (k := ?_)
      refine WL.store (v := .int .u64 0) (i := 4) (cs' := #[.pointer (some ⟨dk, 0, none⟩), .int .i64 at_, .int .i64 k, .bool false, .int .u64 0, .int .i64 (-1)]) hb54 (k := fun w71 hb72 k73 => ?_)
      replace hd55 := hd55.keeps k73 (fun i hi e => hnb (e ▸ hi))
      replace hb6 := k73.heap hb6 (Ne.symm n9)
      replace hb50 := k73.heap hb50 (Ne.symm n26)
      replace hb45 := k73.heap hb45 (Ne.symm n40)
      replace hb69 := k73.heap hb69 (Ne.symm n63)
      replace K := K.trans' k73 (fun i hi e => .inl e)
      clear hb54
      refine WL.nil ?_
      refine WX.seqN ?_
      refine WC.seq ?_
      refine WC.region ?_
      refine WL.op (d := 37) (.agg #[.int .u64 0, .string ⟨#[]⟩]) (k := ?_)
      refine WL.op (d := 38) (.int .i64 (SvR.bad r1)) (k := ?_)
      refine WL.store (v := .agg #[.int .u64 0, .string ⟨#[]⟩]) (i := 0) (cs' := #[.int .u64 0, .string ⟨#[]⟩]) hb6 (k := fun w74 hb75 k76 => ?_)
      replace hb72 := k76.heap hb72 n9
      replace hd55 := hd55.keeps k76 (fun i hi e => n10 (e ▸ hi))
      replace hb50 := k76.heap hb50 (Ne.symm n28)
      replace hb45 := k76.heap hb45 (Ne.symm n42)
      replace hb69 := k76.heap hb69 (Ne.symm n65)
      replace K := K.trans' k76 (fun i hi e => absurd (e ▸ hi) (Nat.not_lt.2 z8))
      clear hb6
      refine WL.op (d := 3) (.bool false) (k := ?_)
      refine WL.op (d := 4) (.int .i64 (SvR.bad r1)) (k := ?_)
      refine WL.nil ?_
      refine WX.seqN ?_
      refine WC.ret ?_
      refine WX.seqR ?_
      refine WX.blockR ?_
      refine WX.seqR ?_
      refine WX.seqR ?_
      refine WX.blockR ?_
      refine WX.seqR ?_
      refine WX.ret (rs := [.cell 2 55, .tmp 3, .tmp 4]) [.agg #[.int .u64 0, .string ⟨#[]⟩], .bool false, .int .i64 (SvR.bad r1)] (.tuple #[.agg #[.int .u64 0, .string ⟨#[]⟩], .bool false, .int .i64 (SvR.bad r1)]) ⟨⟨_, (by kernel_rfl), ldN (T := 55) (i := 0) (m := 2) (l := [.int .u64 0, .string ⟨#[]⟩]) hb75⟩, (by kernel_rfl), (by kernel_rfl), trivial⟩ (k := ?_)
      exact ⟨rfl, hb72, hd55, K⟩
    · have ph48 := of_decide_eq_false h48
      refine WC.skip ?_
      refine WX.blockN ?_
      refine WX.seqN ?_
      refine WC.region ?_
      refine WL.op (d := 51) (.int .i64 1) (k := ?_)
      refine WL.op (d := 23) (.int .i64 1) (k := ?_)
      refine WL.nil ?_
      refine WX.more ?_
      refine WC.seq ?_
      refine WC.region ?_
      refine WL.op (d := 24) (.bool true) (k := ?_)
      refine WL.nil ?_
      refine WX.seqN ?_
      refine WC.seq ?_
      refine WC.condT (k := ?_)
      refine WC.skip ?_
      refine WX.seqN ?_
      refine WC.seq ?_
      refine WC.block ?_
      refine WC.seq ?_
      refine WC.region ?_
      refine WL.op (d := 25) (.int .i64 1) (k := ?_)
      refine WL.op (d := 7) (.int .i64 1) (k := ?_)
      refine WL.nil ?_
      refine WX.seqN ?_
      refine WC.seq ?_
      refine WC.region ?_
      refine WL.op (d := 27) (.pointer (some ⟨b, 0, none⟩)) (k := ?_)
      refine WL.op (d := 28) (.int .i64 1) (k := ?_)
      refine WL.callG (d := 29) (f := 37) (args := #[.pointer (some ⟨b, 0, none⟩), .int .i64 1]) (svSlot_r (slot := 1) (sk := k) (k := k) (nw := SvR.nw r0) (by omega) (by omega) (by omega) (by omega) (by omega) (by omega) (by omega) hb31 hd32 hnb (by omega) sB) (k := fun e_ w78 h_ => ?_)
      obtain ⟨rfl, hb79, hd80, k81⟩ := h_
      refine ⟨_, rfl, ?_⟩
      replace K := K.trans' k81 (fun i hi e => e.elim (fun e => .inl e) (fun e => (lk0 i e).elim (fun h => .inr h) (fun h => absurd hi (Nat.not_lt.2 h))))
      replace hb6 := k81.heap hb6 (not_or.2 ⟨Ne.symm n9, n10⟩)
      replace hb23 := k81.heap hb23 (not_or.2 ⟨Ne.symm n26, n27⟩)
      replace hb45 := k81.heap hb45 (not_or.2 ⟨Ne.symm n40, n41⟩)
      clear hb31 hd32
      have rl77 := SvR.e_lt (by omega) sB
      refine WL.op (d := 26) (.tuple #[.agg #[.int .u64 ((SvR.e r1 : Nat) : Int), .string ⟨(SvR.t r1).toArray⟩], .int .i64 (SvR.bad r1)]) (k := ?_)
      refine WL.op (d := 30) (.agg #[.int .u64 ((SvR.e r1 : Nat) : Int), .string ⟨(SvR.t r1).toArray⟩]) (k := ?_)
      refine WL.op (d := 31) (.int .i64 (SvR.bad r1)) (k := ?_)
      refine WL.new (d := 8) (T := 55) #[.int .u64 0, .string ⟨#[]⟩] (k := fun b82 w83 g84 hb85 k86 => ?_)
      have z87 := Nat.le_trans K.size g84
      have n88 : b ≠ b82 := Nat.ne_of_lt (Nat.lt_of_lt_of_le (lt_of_heap hb79) g84)
      have n89 : ¬ S b82 := fun h => absurd (hd80.lt _ h) (Nat.not_lt.2 g84)
      have n90 : b3 ≠ b82 := Nat.ne_of_lt (Nat.lt_of_lt_of_le (lt_of_heap hb6) g84)
      have n91 : b20 ≠ b82 := Nat.ne_of_lt (Nat.lt_of_lt_of_le (lt_of_heap hb23) g84)
      have n92 : b34 ≠ b82 := Nat.ne_of_lt (Nat.lt_of_lt_of_le (lt_of_heap hb45) g84)
      replace hb79 := k86.heap hb79 id
      replace hd80 := hd80.adds k86
      replace hb6 := k86.heap hb6 id
      replace hb23 := k86.heap hb23 id
      replace hb45 := k86.heap hb45 id
      replace K := K.trans (k86.any _)
      refine WL.store (v := .agg #[.int .u64 ((SvR.e r1 : Nat) : Int), .string ⟨(SvR.t r1).toArray⟩]) (i := 0) (cs' := #[.int .u64 ((SvR.e r1 : Nat) : Int), .string ⟨(SvR.t r1).toArray⟩]) hb85 (k := fun w93 hb94 k95 => ?_)
      replace hb79 := k95.heap hb79 n88
      replace hd80 := hd80.keeps k95 (fun i hi e => n89 (e ▸ hi))
      replace hb6 := k95.heap hb6 n90
      replace hb23 := k95.heap hb23 n91
      replace hb45 := k95.heap hb45 n92
      replace K := K.trans' k95 (fun i hi e => absurd (e ▸ hi) (Nat.not_lt.2 z87))
      clear hb85
      refine WL.op (d := 9) (.int .i64 (SvR.bad r1)) (k := ?_)
      refine WL.nil ?_
      refine WX.seqN ?_
      refine WC.seq ?_
      refine WC.seq ?_
      refine WC.region ?_
      refine WL.op (d := 32) (.int .i64 (SvR.bad r1)) (k := ?_)
      refine WL.op (d := 33) (.bool ((SvR.bad r1) != 0)) (k := ?_)
      refine WL.nil ?_
      refine WX.seqN ?_
      refine WC.rw (t := 33) (v := .bool true) (congrArg Value.bool h2) (k := ?_)
      refine WC.condT (k := ?_)
      refine WC.seq ?_
      refine WC.region ?_
      refine WL.op (d := 34) (.pointer (some ⟨b, 0, none⟩)) (k := ?_)
      refine WL.op (d := 35) (.pointer (some ⟨b, 0, none⟩)) (k := ?_)
      refine WL.op (d := 36) (.pointer (some ⟨b, 4, none⟩)) (k := ?_)
      refine WL.store (v := .int .u64 0) (i := 4) (cs' := #[.pointer (some ⟨dk, 0, none⟩), .int .i64 at_, .int .i64 k, .bool false, .int .u64 0, .int .i64 (-1)]) hb79 (k := fun w96 hb97 k98 => ?_)
      replace hd80 := hd80.keeps k98 (fun i hi e => hnb (e ▸ hi))
      replace hb6 := k98.heap hb6 (Ne.symm n9)
      replace hb23 := k98.heap hb23 (Ne.symm n26)
      replace hb45 := k98.heap hb45 (Ne.symm n40)
      replace hb94 := k98.heap hb94 (Ne.symm n88)
      replace K := K.trans' k98 (fun i hi e => .inl e)
      clear hb79
      refine WL.nil ?_
      refine WX.seqN ?_
      refine WC.seq ?_
      refine WC.region ?_
      refine WL.op (d := 37) (.agg #[.int .u64 0, .string ⟨#[]⟩]) (k := ?_)
      refine WL.op (d := 38) (.int .i64 (SvR.bad r1)) (k := ?_)
      refine WL.store (v := .agg #[.int .u64 0, .string ⟨#[]⟩]) (i := 0) (cs' := #[.int .u64 0, .string ⟨#[]⟩]) hb6 (k := fun w99 hb100 k101 => ?_)
      replace hb97 := k101.heap hb97 n9
      replace hd80 := hd80.keeps k101 (fun i hi e => n10 (e ▸ hi))
      replace hb23 := k101.heap hb23 (Ne.symm n28)
      replace hb45 := k101.heap hb45 (Ne.symm n42)
      replace hb94 := k101.heap hb94 (Ne.symm n90)
      replace K := K.trans' k101 (fun i hi e => absurd (e ▸ hi) (Nat.not_lt.2 z8))
      clear hb6
      refine WL.op (d := 3) (.bool false) (k := ?_)
      refine WL.op (d := 4) (.int .i64 (SvR.bad r1)) (k := ?_)
      refine WL.nil ?_
      refine WX.seqN ?_
      refine WC.ret ?_
      refine WX.seqR ?_
      refine WX.blockR ?_
      refine WX.seqR ?_
      refine WX.seqR ?_
      refine WX.blockR ?_
      refine WX.seqR ?_
      refine WX.ret (rs := [.cell 2 55, .tmp 3, .tmp 4]) [.agg #[.int .u64 0, .string ⟨#[]⟩], .bool false, .int .i64 (SvR.bad r1)] (.tuple #[.agg #[.int .u64 0, .string ⟨#[]⟩], .bool false, .int .i64 (SvR.bad r1)]) ⟨⟨_, (by kernel_rfl), ldN (T := 55) (i := 0) (m := 2) (l := [.int .u64 0, .string ⟨#[]⟩]) hb100⟩, (by kernel_rfl), (by kernel_rfl), trivial⟩ (k := ?_)
      exfalso; omega
  · have ph47 := of_bne_false h47
    refine WL.rw (t := 42) (v := .bool false) (congrArg Value.bool h47) (k := ?_)
    refine WL.skip (d := 43) (k := ?_)
    refine WL.skip (d := 44) (k := ?_)
    refine WL.skip (d := 45) (k := ?_)
    refine WL.skip (d := 46) (k := ?_)
    refine WL.skip (d := 47) (k := ?_)
    refine WL.op (d := 48) (.bool false) (k := ?_)
    refine WL.nil ?_
    refine WX.seqN ?_
    refine WC.condF (k := ?_)
    refine WC.skip ?_
    refine WX.blockN ?_
    refine WX.seqN ?_
    refine WC.region ?_
    refine WL.op (d := 51) (.int .i64 1) (k := ?_)
    refine WL.op (d := 23) (.int .i64 1) (k := ?_)
    refine WL.nil ?_
    refine WX.more ?_
    refine WC.seq ?_
    refine WC.region ?_
    refine WL.op (d := 24) (.bool true) (k := ?_)
    refine WL.nil ?_
    refine WX.seqN ?_
    refine WC.seq ?_
    refine WC.condT (k := ?_)
    refine WC.skip ?_
    refine WX.seqN ?_
    refine WC.seq ?_
    refine WC.block ?_
    refine WC.seq ?_
    refine WC.region ?_
    refine WL.op (d := 25) (.int .i64 1) (k := ?_)
    refine WL.op (d := 7) (.int .i64 1) (k := ?_)
    refine WL.nil ?_
    refine WX.seqN ?_
    refine WC.seq ?_
    refine WC.region ?_
    refine WL.op (d := 27) (.pointer (some ⟨b, 0, none⟩)) (k := ?_)
    refine WL.op (d := 28) (.int .i64 1) (k := ?_)
    refine WL.callG (d := 29) (f := 37) (args := #[.pointer (some ⟨b, 0, none⟩), .int .i64 1]) (svSlot_r (slot := 1) (sk := k) (k := k) (nw := SvR.nw r0) (by omega) (by omega) (by omega) (by omega) (by omega) (by omega) (by omega) hb31 hd32 hnb (by omega) sB) (k := fun e_ w103 h_ => ?_)
    obtain ⟨rfl, hb104, hd105, k106⟩ := h_
    refine ⟨_, rfl, ?_⟩
    replace K := K.trans' k106 (fun i hi e => e.elim (fun e => .inl e) (fun e => (lk0 i e).elim (fun h => .inr h) (fun h => absurd hi (Nat.not_lt.2 h))))
    replace hb6 := k106.heap hb6 (not_or.2 ⟨Ne.symm n9, n10⟩)
    replace hb23 := k106.heap hb23 (not_or.2 ⟨Ne.symm n26, n27⟩)
    replace hb45 := k106.heap hb45 (not_or.2 ⟨Ne.symm n40, n41⟩)
    clear hb31 hd32
    have rl102 := SvR.e_lt (by omega) sB
    refine WL.op (d := 26) (.tuple #[.agg #[.int .u64 ((SvR.e r1 : Nat) : Int), .string ⟨(SvR.t r1).toArray⟩], .int .i64 (SvR.bad r1)]) (k := ?_)
    refine WL.op (d := 30) (.agg #[.int .u64 ((SvR.e r1 : Nat) : Int), .string ⟨(SvR.t r1).toArray⟩]) (k := ?_)
    refine WL.op (d := 31) (.int .i64 (SvR.bad r1)) (k := ?_)
    refine WL.new (d := 8) (T := 55) #[.int .u64 0, .string ⟨#[]⟩] (k := fun b107 w108 g109 hb110 k111 => ?_)
    have z112 := Nat.le_trans K.size g109
    have n113 : b ≠ b107 := Nat.ne_of_lt (Nat.lt_of_lt_of_le (lt_of_heap hb104) g109)
    have n114 : ¬ S b107 := fun h => absurd (hd105.lt _ h) (Nat.not_lt.2 g109)
    have n115 : b3 ≠ b107 := Nat.ne_of_lt (Nat.lt_of_lt_of_le (lt_of_heap hb6) g109)
    have n116 : b20 ≠ b107 := Nat.ne_of_lt (Nat.lt_of_lt_of_le (lt_of_heap hb23) g109)
    have n117 : b34 ≠ b107 := Nat.ne_of_lt (Nat.lt_of_lt_of_le (lt_of_heap hb45) g109)
    replace hb104 := k111.heap hb104 id
    replace hd105 := hd105.adds k111
    replace hb6 := k111.heap hb6 id
    replace hb23 := k111.heap hb23 id
    replace hb45 := k111.heap hb45 id
    replace K := K.trans (k111.any _)
    refine WL.store (v := .agg #[.int .u64 ((SvR.e r1 : Nat) : Int), .string ⟨(SvR.t r1).toArray⟩]) (i := 0) (cs' := #[.int .u64 ((SvR.e r1 : Nat) : Int), .string ⟨(SvR.t r1).toArray⟩]) hb110 (k := fun w118 hb119 k120 => ?_)
    replace hb104 := k120.heap hb104 n113
    replace hd105 := hd105.keeps k120 (fun i hi e => n114 (e ▸ hi))
    replace hb6 := k120.heap hb6 n115
    replace hb23 := k120.heap hb23 n116
    replace hb45 := k120.heap hb45 n117
    replace K := K.trans' k120 (fun i hi e => absurd (e ▸ hi) (Nat.not_lt.2 z112))
    clear hb110
    refine WL.op (d := 9) (.int .i64 (SvR.bad r1)) (k := ?_)
    refine WL.nil ?_
    refine WX.seqN ?_
    refine WC.seq ?_
    refine WC.seq ?_
    refine WC.region ?_
    refine WL.op (d := 32) (.int .i64 (SvR.bad r1)) (k := ?_)
    refine WL.op (d := 33) (.bool ((SvR.bad r1) != 0)) (k := ?_)
    refine WL.nil ?_
    refine WX.seqN ?_
    refine WC.rw (t := 33) (v := .bool true) (congrArg Value.bool h2) (k := ?_)
    refine WC.condT (k := ?_)
    refine WC.seq ?_
    refine WC.region ?_
    refine WL.op (d := 34) (.pointer (some ⟨b, 0, none⟩)) (k := ?_)
    refine WL.op (d := 35) (.pointer (some ⟨b, 0, none⟩)) (k := ?_)
    refine WL.op (d := 36) (.pointer (some ⟨b, 4, none⟩)) (k := ?_)
    refine WL.store (v := .int .u64 0) (i := 4) (cs' := #[.pointer (some ⟨dk, 0, none⟩), .int .i64 at_, .int .i64 k, .bool false, .int .u64 0, .int .i64 (-1)]) hb104 (k := fun w121 hb122 k123 => ?_)
    replace hd105 := hd105.keeps k123 (fun i hi e => hnb (e ▸ hi))
    replace hb6 := k123.heap hb6 (Ne.symm n9)
    replace hb23 := k123.heap hb23 (Ne.symm n26)
    replace hb45 := k123.heap hb45 (Ne.symm n40)
    replace hb119 := k123.heap hb119 (Ne.symm n113)
    replace K := K.trans' k123 (fun i hi e => .inl e)
    clear hb104
    refine WL.nil ?_
    refine WX.seqN ?_
    refine WC.seq ?_
    refine WC.region ?_
    refine WL.op (d := 37) (.agg #[.int .u64 0, .string ⟨#[]⟩]) (k := ?_)
    refine WL.op (d := 38) (.int .i64 (SvR.bad r1)) (k := ?_)
    refine WL.store (v := .agg #[.int .u64 0, .string ⟨#[]⟩]) (i := 0) (cs' := #[.int .u64 0, .string ⟨#[]⟩]) hb6 (k := fun w124 hb125 k126 => ?_)
    replace hb122 := k126.heap hb122 n9
    replace hd105 := hd105.keeps k126 (fun i hi e => n10 (e ▸ hi))
    replace hb23 := k126.heap hb23 (Ne.symm n28)
    replace hb45 := k126.heap hb45 (Ne.symm n42)
    replace hb119 := k126.heap hb119 (Ne.symm n115)
    replace K := K.trans' k126 (fun i hi e => absurd (e ▸ hi) (Nat.not_lt.2 z8))
    clear hb6
    refine WL.op (d := 3) (.bool false) (k := ?_)
    refine WL.op (d := 4) (.int .i64 (SvR.bad r1)) (k := ?_)
    refine WL.nil ?_
    refine WX.seqN ?_
    refine WC.ret ?_
    refine WX.seqR ?_
    refine WX.blockR ?_
    refine WX.seqR ?_
    refine WX.seqR ?_
    refine WX.blockR ?_
    refine WX.seqR ?_
    refine WX.ret (rs := [.cell 2 55, .tmp 3, .tmp 4]) [.agg #[.int .u64 0, .string ⟨#[]⟩], .bool false, .int .i64 (SvR.bad r1)] (.tuple #[.agg #[.int .u64 0, .string ⟨#[]⟩], .bool false, .int .i64 (SvR.bad r1)]) ⟨⟨_, (by kernel_rfl), ldN (T := 55) (i := 0) (m := 2) (l := [.int .u64 0, .string ⟨#[]⟩]) hb125⟩, (by kernel_rfl), (by kernel_rfl), trivial⟩ (k := ?_)
    exact ⟨rfl, hb122, hd105, K⟩
set_option maxRecDepth 100000 in
set_option maxHeartbeats 4000000 in
theorem svPuts_c {S : Nat → Prop} {b dk : Nat} {d : GDisk} {at_ k slot sk : Int} {rv lv : Value} {nw : Nat} {l : List UInt8} {w : World} (hsk : slot * k = sk) (s0 : 0 ≤ sk) (s1 : sk ≤ 64) (a0 : 0 ≤ at_) (a1 : at_ ≤ 1024) (k0 : 0 ≤ k) (k1 : k ≤ 64) (hb : w.heap[b]? = some (.cells #[.pointer (some ⟨dk, 0, none⟩), .int .i64 at_, .int .i64 k, rv, .int .u64 (nw : Int), lv] 81 (0, 0))) (hd : DiskAt S dk d w) (hnb : ¬ S b) (hnw : nw < 18446744073709551616) (hll : l.length ≤ 1000000) (hm : d.opn.length + 64 < 1000000) : Calls Tryz.prog 38 #[.pointer (some ⟨b, 0, none⟩), .int .i64 slot, .string ⟨l.toArray⟩] w fun e w' => e = .returned (.int .i64 (putsGo (at_ + sk) (chunks l) nw k.toNat 0 d).1) ∧ DkPost S dk (putsGo (at_ + sk) (chunks l) nw k.toNat 0 d).2 w w' := by
  have K : Keeps S w w := Keeps.refl _ w
  have lk0 : ∀ k, S k → S k ∨ w.heap.size ≤ k := fun k h => .inl h
  refine Calls.start Tryz.func38 rfl (by kernel_rfl) ?_
  refine WC.seq ?_
  refine WC.region ?_
  refine WL.op (d := 6) (.int .i64 0) (k := ?_)
  refine WL.nil ?_
  refine WX.seqN ?_
  refine WC.seq ?_
  refine WC.region ?_
  refine WL.op (d := 13) (.string ⟨(l).toArray⟩) (k := ?_)
  refine WL.callG (d := 14) (f := 50) (args := #[.string ⟨(l).toArray⟩]) (fChunks_c (l := l) (by show List.length l ≤ _; first | omega | (simp; done) | (simp; omega)) w) (k := fun e_ w2 h_ => ?_)
  obtain ⟨A3, c4, rfl, ho5, k6, ol7⟩ := h_
  refine ⟨_, rfl, ?_⟩
  have ol8 := fun i h => Nat.le_trans K.size (ol7 i h)
  have n9 : ∀ i, blk A3 = some i → ¬ S i := fun i hi h => absurd (hd.lt i h) (Nat.not_lt.2 (ol7 i hi))
  replace hb := k6.heap hb id
  replace hd := hd.adds k6
  replace K := K.trans (k6.any _)
  clear ol7
  have cl1 := chunks_len (l := l)
  refine WL.op (d := 7) (.slice A3 ((chunks l).length) c4) (k := ?_)
  refine WL.nil ?_
  refine WX.seqN ?_
  refine WC.seq ?_
  refine WC.seq ?_
  refine WC.region ?_
  refine WL.op (d := 15) (.pointer (some ⟨b, 0, none⟩)) (k := ?_)
  refine WL.op (d := 16) (.pointer (some ⟨b, 0, none⟩)) (k := ?_)
  refine WL.op (d := 17) (.pointer (some ⟨b, 2, none⟩)) (k := ?_)
  refine WL.load (v := .int .i64 k) (ld1 (T := 3) (i := 2) hb) (k := ?_)
  refine WL.op (d := 19) (.int .i64 0) (k := ?_)
  refine WL.nil ?_
  refine WX.seqN ?_
  refine WC.block ?_
  refine WC.loop (ι := Nat × GDisk × (Nat → Prop)) (fun (⟨i, di, Si⟩ : Nat × GDisk × (Nat → Prop)) => [(0, .pointer (some ⟨b, 0, none⟩)), (1, .int .i64 slot), (2, .string ⟨(l).toArray⟩), (13, .string ⟨(l).toArray⟩), (14, .slice A3 ((chunks l).length) c4), (7, .slice A3 ((chunks l).length) c4), (15, .pointer (some ⟨b, 0, none⟩)), (16, .pointer (some ⟨b, 0, none⟩)), (17, .pointer (some ⟨b, 2, none⟩)), (18, .int .i64 k), (19, .int .i64 (i : Int))]) (fun (⟨i, di, Si⟩ : Nat × GDisk × (Nat → Prop)) (w_ : World) => (Keeps S w w_) ∧ (w_.heap[b]? = some (.cells #[.pointer (some ⟨dk, 0, none⟩), .int .i64 at_, .int .i64 k, rv, .int .u64 ((nw : Nat) : Int), lv] 81 (0, 0))) ∧ (DiskAt Si dk di w_) ∧ (∀ k, Si k → S k ∨ w.heap.size ≤ k) ∧ (¬ Si b) ∧ (∀ i, blk A3 = some i → ¬ Si i) ∧ (OwAt strC 1 9 A3 c4 (chunks l) w_) ∧ (∀ i, blk A3 = some i → w.heap.size ≤ i) ∧ (putsGo (at_ + sk) (chunks l) nw k.toNat 0 d = putsGo (at_ + sk) (chunks l) nw (k.toNat - i) i di) ∧ (di.opn.length ≤ d.opn.length + i)) (fun (⟨i, di, Si⟩ : Nat × GDisk × (Nat → Prop)) => (k.toNat - i)) (0, d, S) ⟨(by kernel_rfl), (by kernel_rfl), (by kernel_rfl), (by kernel_rfl), (by kernel_rfl), (by kernel_rfl), (by kernel_rfl), (by kernel_rfl), (by kernel_rfl), (by kernel_rfl), (by kernel_rfl), trivial⟩ ⟨K, hb, hd, lk0, hnb, n9, ho5, ol8, rfl, (Nat.le_refl _)⟩ ?_
  rintro ⟨i, di, Si⟩ w10 ⟨K, hb11, hb12, lk13, n14, n15, hb16, ol17, hg, ho⟩
  refine WC.seq ?_
  refine WC.region ?_
  refine WL.op (d := 20) (.bool (decide ((i : Int) < k))) (k := ?_)
  refine WL.nil ?_
  refine WX.seqN ?_
  refine WC.seq ?_
  refine WC.cond (b := decide ((i : Int) < k)) (ht := fun h18 => ?_) (hf := fun h18 => ?_)
  · have ph18 := of_decide_eq_true h18
    refine WC.skip ?_
    refine WX.seqN ?_
    refine WC.seq ?_
    refine WC.block ?_
    refine WC.seq ?_
    refine WC.region ?_
    refine WL.op (d := 21) (.int .i64 (i : Int)) (k := ?_)
    refine WL.op (d := 8) (.int .i64 (i : Int)) (k := ?_)
    refine WL.nil ?_
    refine WX.seqN ?_
    refine WC.seq ?_
    refine WC.region ?_
    refine WL.op (d := 22) (.pointer (some ⟨b, 0, none⟩)) (k := ?_)
    refine WL.op (d := 23) (.pointer (some ⟨b, 0, none⟩)) (k := ?_)
    refine WL.op (d := 24) (.pointer (some ⟨b, 4, none⟩)) (k := ?_)
    refine WL.load (v := .int .u64 ((nw : Nat) : Int)) (ld1 (T := 41) (i := 4) hb11) (k := ?_)
    refine WL.op (d := 26) (.int .i64 (i : Int)) (k := ?_)
    refine WL.opE (d := 27) (.int .u64 (IntKind.u64.wrap (i : Int))) (v := .int .u64 (i : Int)) (congrArg (Value.int .u64) (IntWalk.u64_in _ (by omega))) (k := ?_)
    refine WL.op (d := 28) (.agg #[.string ⟨#[]⟩, .int .u64 ((nw : Nat) : Int), .int .u64 (i : Int)]) (k := ?_)
    refine WL.new (d := 9) (T := 104) #[.string ⟨#[]⟩, .int .u64 0, .int .u64 0] (k := fun b19 w20 g21 hb22 k23 => ?_)
    have z24 := Nat.le_trans K.size g21
    have n25 : b ≠ b19 := Nat.ne_of_lt (Nat.lt_of_lt_of_le (lt_of_heap hb11) g21)
    have n26 : ¬ Si b19 := fun h => absurd (hb12.lt _ h) (Nat.not_lt.2 g21)
    have n27 := OwAt.off_new hb16 g21
    replace hb11 := k23.heap hb11 id
    replace hb12 := hb12.adds k23
    replace hb16 := hb16.adds k23
    replace K := K.trans (k23.any _)
    refine WL.store (v := .agg #[.string ⟨#[]⟩, .int .u64 ((nw : Nat) : Int), .int .u64 (i : Int)]) (i := 0) (cs' := #[.string ⟨#[]⟩, .int .u64 ((nw : Nat) : Int), .int .u64 (i : Int)]) hb22 (k := fun w28 hb29 k30 => ?_)
    replace hb11 := k30.heap hb11 n25
    replace hb12 := hb12.keeps k30 (fun i hi e => n26 (e ▸ hi))
    replace hb16 := hb16.keeps k30 (fun i hi e => (n27) (e ▸ hi))
    replace K := K.trans' k30 (fun i hi e => absurd (e ▸ hi) (Nat.not_lt.2 z24))
    clear hb22
    refine WL.nil ?_
    refine WX.seqN ?_
    refine WC.seq ?_
    refine WC.seq ?_
    refine WC.region ?_
    refine WL.op (d := 29) (.int .i64 (i : Int)) (k := ?_)
    refine WL.op (d := 30) (.slice A3 ((chunks l).length) c4) (k := ?_)
    refine WL.op (d := 31) (.int .i64 ((chunks l).length : Int)) (k := ?_)
    refine WL.op (d := 32) (.bool (decide ((i : Int) < ((chunks l).length : Int)))) (k := ?_)
    refine WL.nil ?_
    refine WX.seqN ?_
    refine WC.cond (b := decide ((i : Int) < ((chunks l).length : Int))) (ht := fun h31 => ?_) (hf := fun h31 => ?_)
    · have ph31 := of_decide_eq_true h31
      refine WC.region ?_
      refine WL.op (d := 33) (.slice A3 ((chunks l).length) c4) (k := ?_)
      refine WL.op (d := 34) (.int .i64 (i : Int)) (k := ?_)
      obtain ⟨b32, o33, r34, hr35, hA36, he37⟩ := SlAt.at (hb16.sl ekStr) (i := (i : Int)) (by omega) (by omega)
      refine WL.rw (t := 33) (v := .slice (some ⟨b32, o33, none⟩) ((chunks l).length) c4) (congrArg (fun a => Value.slice a ((chunks l).length) c4) hA36) (k := ?_)
      have cm_r34 := chunks_mem (List.mem_of_getElem? hr35)
      refine WL.idx (T := 31) (E := 9) (m := 1) (b := b32) (o := o33) (len := (chunks l).length) (cap := c4) (i := (i : Int)) (kk := .i64) (d := 35) (by omega) (by omega) (k := ?_)
      refine WL.rw (t := 33) (v := .slice A3 ((chunks l).length) c4) (congrArg (fun a => Value.slice a ((chunks l).length) c4) (Eq.symm hA36)) (k := ?_)
      refine WL.load (v := .string ⟨(r34).toArray⟩) (he37.ld0 (T := 9)) (k := ?_)
      refine WL.op (d := 37) (.pointer (some ⟨b19, 0, none⟩)) (k := ?_)
      refine WL.store (v := .string ⟨(r34).toArray⟩) (i := 0) (cs' := #[.string ⟨(r34).toArray⟩, .int .u64 ((nw : Nat) : Int), .int .u64 (i : Int)]) hb29 (k := fun w38 hb39 k40 => ?_)
      replace hb11 := k40.heap hb11 n25
      replace hb12 := hb12.keeps k40 (fun i hi e => n26 (e ▸ hi))
      replace hb16 := hb16.keeps k40 (fun i hi e => (n27) (e ▸ hi))
      replace K := K.trans' k40 (fun i hi e => absurd (e ▸ hi) (Nat.not_lt.2 z24))
      clear hb29
      refine WL.nil ?_
      refine WX.seqN ?_
      refine WC.seq ?_
      refine WC.region ?_
      refine WL.load (v := .agg #[.string ⟨(r34).toArray⟩, .int .u64 ((nw : Nat) : Int), .int .u64 (i : Int)]) (ldN (T := 104) (i := 0) (m := 3) (l := [.string ⟨(r34).toArray⟩, .int .u64 ((nw : Nat) : Int), .int .u64 (i : Int)]) hb39) (k := ?_)
      refine WL.callG (d := 40) (f := 51) (args := #[.agg #[.string ⟨(r34).toArray⟩, .int .u64 ((nw : Nat) : Int), .int .u64 (i : Int)]]) (fMake_ok (p := r34) (e := nw) (n := i) (by first | omega | (simp; done) | (simp; omega)) (by show List.length r34 ≤ _; first | omega | (simp; done) | (simp; omega)) (by omega) (by omega) w38) (k := fun e_ w42 h_ => ⟨.tuple #[.string ⟨(makeS r34 nw i).toArray⟩, .int .i64 0], h_.1, ?_⟩)
      have k43 := h_.2; clear h_
      replace hb11 := k43.heap hb11 id
      replace hb12 := hb12.adds k43
      replace hb16 := hb16.adds k43
      replace hb39 := k43.heap hb39 id
      replace K := K.trans (k43.any _)
      have ml41 := makeS_len (p := r34) (by first | omega | (simp; done) | (simp; omega)) nw i
      refine WL.op (d := 38) (.tuple #[.string ⟨(makeS r34 nw i).toArray⟩, .int .i64 0]) (k := ?_)
      refine WL.op (d := 41) (.string ⟨(makeS r34 nw i).toArray⟩) (k := ?_)
      refine WL.op (d := 42) (.int .i64 0) (k := ?_)
      refine WL.op (d := 10) (.string ⟨(makeS r34 nw i).toArray⟩) (k := ?_)
      refine WL.op (d := 11) (.int .i64 0) (k := ?_)
      refine WL.nil ?_
      refine WX.seqN ?_
      refine WC.seq ?_
      have x_ : makeS r34 nw i = putX (chunks l) nw i := by have q_ := hr35; rw [Int.toNat_natCast] at q_; rw [putX, List.getD_eq_getElem?_getD, q_]; rfl
      refine WC.rw (t := 10) (v := .string ⟨(putX (chunks l) nw i).toArray⟩) (congrArg (fun l : List UInt8 => Value.string ⟨l.toArray⟩) x_) (k := ?_)
      have xl_ : (putX (chunks l) nw i).length = 64 := putX_len (fun _ h => chunks_mem h) nw i
      refine WC.mixed (fun k => Si k) 19 (k := fun w44 k45 => ?_)
      replace hb11 := k45.heap hb11 id
      replace hb12 := hb12.adds k45
      replace hb16 := hb16.adds k45
      replace hb39 := k45.heap hb39 id
      replace K := K.trans (k45.any _)
      have KC := Keeps.refl (fun k => Si k) w44
      have bh46 := hb11
      have bh47 := hb39
      have Kb := K
      refine WA.quiet 0 (d := 43) (.pointer (some ⟨b, 0, none⟩)) KC (hi := rfl) (k := ?_)
      refine WA.quiet 1 (d := 44) (.pointer (some ⟨b, 0, none⟩)) KC (hi := rfl) (k := ?_)
      refine WA.quiet 2 (d := 45) (.pointer (some ⟨b, 0, none⟩)) KC (hi := rfl) (k := ?_)
      refine WA.quietR 3 (d := 46) (.pointer (some ⟨dk, 0, none⟩)) KC (exec_load (fun w_ k_ => ld1 (T := 23) (i := 0) (k_.heap bh46 n14))) (hi := rfl) (k := ?_)
      refine WA.quiet 4 (d := 47) (.pointer (some ⟨b, 0, none⟩)) KC (hi := rfl) (k := ?_)
      refine WA.quiet 5 (d := 48) (.pointer (some ⟨b, 0, none⟩)) KC (hi := rfl) (k := ?_)
      refine WA.quiet 6 (d := 49) (.pointer (some ⟨b, 1, none⟩)) KC (hi := rfl) (k := ?_)
      refine WA.quietR 7 (d := 50) (.int .i64 at_) KC (exec_load (fun w_ k_ => ld1 (T := 3) (i := 1) (k_.heap bh46 n14))) (hi := rfl) (k := ?_)
      refine WA.quiet 8 (d := 51) (.int .i64 slot) KC (hi := rfl) (k := ?_)
      refine WA.quiet 9 (d := 52) (.pointer (some ⟨b, 0, none⟩)) KC (hi := rfl) (k := ?_)
      refine WA.quiet 10 (d := 53) (.pointer (some ⟨b, 0, none⟩)) KC (hi := rfl) (k := ?_)
      refine WA.quiet 11 (d := 54) (.pointer (some ⟨b, 2, none⟩)) KC (hi := rfl) (k := ?_)
      refine WA.quietR 12 (d := 55) (.int .i64 k) KC (exec_load (fun w_ k_ => ld1 (T := 3) (i := 2) (k_.heap bh46 n14))) (hi := rfl) (k := ?_)
      refine WA.quiet 13 (d := 56) (.int .i64 (IntKind.i64.wrap (slot * k))) KC (hi := rfl) (k := ?_)
      refine WA.rw (t := 56) (v := .int .i64 sk) (congrArg (Value.int .i64) ((IntWalk.i64_in _ (by omega)).trans hsk)) (k := ?_)
      refine WA.quiet 14 (d := 57) (.int .i64 (IntKind.i64.wrap (at_ + sk))) KC (hi := rfl) (k := ?_)
      refine WA.rw (t := 57) (v := .int .i64 (at_ + sk)) (congrArg (Value.int .i64) (IntWalk.i64_in _ (by omega))) (k := ?_)
      refine WA.quiet 15 (d := 58) (.int .i64 (i : Int)) KC (hi := rfl) (k := ?_)
      refine WA.quiet 16 (d := 59) (.int .i64 (IntKind.i64.wrap ((at_ + sk) + (i : Int)))) KC (hi := rfl) (k := ?_)
      refine WA.rw (t := 59) (v := .int .i64 ((at_ + sk) + (i : Int))) (congrArg (Value.int .i64) (IntWalk.i64_in _ (by omega))) (k := ?_)
      refine WA.quiet 17 (d := 60) (.string ⟨(putX (chunks l) nw i).toArray⟩) KC (hi := rfl) (k := ?_)
      refine WA.step 18 (hi := rfl) (k := ?_)
      refine WL.callG (d := 61) (f := 52) (args := #[.pointer (some ⟨dk, 0, none⟩), .int .i64 ((at_ + sk) + (i : Int)), .string ⟨(putX (chunks l) nw i).toArray⟩]) (dWrite_c (a := (at_ + sk) + (i : Int)) (l := putX (chunks l) nw i) (by omega) (by show List.length (putX (chunks l) nw i) ≤ _; first | omega | (simp; done) | (simp; omega)) hb12) (k := fun e_ w48 h_ => ?_)
      obtain ⟨rfl, S51, hd49, lk52, k50⟩ := h_
      refine ⟨_, rfl, ?_⟩
      have n53 : ¬ S51 b := fun h => (lk52 _ h).elim n14 (fun h2 => absurd (lt_of_heap hb11) (Nat.not_lt.2 h2))
      have n54 : ∀ i, blk A3 = some i → ¬ S51 i := fun i hi h => (lk52 _ h).elim (n15 i hi) (fun h2 => absurd (hb16.lt i hi) (Nat.not_lt.2 h2))
      have n55 : ¬ S51 b19 := fun h => (lk52 _ h).elim n26 (fun h2 => absurd (lt_of_heap hb39) (Nat.not_lt.2 h2))
      have lk56 := lk_step lk13 lk52 K
      replace hb11 := k50.heap hb11 n14
      replace hb16 := hb16.keeps k50 n15
      replace hb39 := k50.heap hb39 n26
      replace K := K.trans' k50 (fun i hi e => (lk13 i e).elim (fun h => h) (fun h => absurd hi (Nat.not_lt.2 h)))
      replace KC := KC.trans' k50 (fun i hi e => e)
      clear hb12
      refine WL.nil ?_
      refine WX.nxt KC ?_
      refine WA.step 19 (hi := rfl) (k := ?_)
      refine WL.op (d := 12) (.int .i64 (GDisk.writeE di ((at_ + sk) + (i : Int)) (putX (chunks l) nw i))) (k := ?_)
      refine WL.nil ?_
      refine WX.nxtL ?_
      refine WA.done (k := ?_)
      clear KC
      refine WX.seqN ?_
      refine WC.seq ?_
      refine WC.region ?_
      refine WL.op (d := 62) (.int .i64 (GDisk.writeE di ((at_ + sk) + (i : Int)) (putX (chunks l) nw i))) (k := ?_)
      refine WL.op (d := 63) (.bool ((GDisk.writeE di ((at_ + sk) + (i : Int)) (putX (chunks l) nw i)) != 0)) (k := ?_)
      refine WL.nil ?_
      refine WX.seqN ?_
      refine WC.cond (b := (GDisk.writeE di ((at_ + sk) + (i : Int)) (putX (chunks l) nw i)) != 0) (ht := fun h57 => ?_) (hf := fun h57 => ?_)
      · have ph57 := bne_iff_ne.1 h57
        refine WC.seq ?_
        refine WC.region ?_
        refine WL.op (d := 64) (.int .i64 (GDisk.writeE di ((at_ + sk) + (i : Int)) (putX (chunks l) nw i))) (k := ?_)
        refine WL.op (d := 6) (.int .i64 (GDisk.writeE di ((at_ + sk) + (i : Int)) (putX (chunks l) nw i))) (k := ?_)
        refine WL.nil ?_
        refine WX.seqN ?_
        refine WC.ret ?_
        refine WX.blockR ?_
        refine WX.seqR ?_
        refine WX.seqR ?_
        refine WX.blockR ?_
        refine WX.seqR ?_
        refine WX.ret (rs := [.tmp 6]) [.int .i64 (GDisk.writeE di ((at_ + sk) + (i : Int)) (putX (chunks l) nw i))] (.int .i64 (GDisk.writeE di ((at_ + sk) + (i : Int)) (putX (chunks l) nw i))) ⟨(by kernel_rfl), trivial⟩ (k := ?_)
        have q_ := puts_stop hg (by omega) ph57
        rw [q_]
        exact ⟨rfl, DkPost.of hd49 lk56 K⟩
      · have ph57 := of_bne_false h57
        refine WC.skip ?_
        refine WX.blockN ?_
        refine WX.seqN ?_
        refine WC.region ?_
        refine WL.opE (d := 65) (.int .i64 (IntKind.i64.wrap ((i : Int) + 1))) (v := .int .i64 ((i + 1 : Nat) : Int)) (congrArg (Value.int .i64) (by rw [IntWalk.i64_in _ (by omega)]; omega)) (k := ?_)
        refine WL.op (d := 19) (.int .i64 ((i + 1 : Nat) : Int)) (k := ?_)
        refine WL.nil ?_
        refine WX.round ((i + 1), GDisk.writeD di ((at_ + sk) + (i : Int)) (putX (chunks l) nw i), S51) (by show (k.toNat - (i + 1)) < (k.toNat - i); omega) ⟨(by kernel_rfl), (by kernel_rfl), (by kernel_rfl), (by kernel_rfl), (by kernel_rfl), (by kernel_rfl), (by kernel_rfl), (by kernel_rfl), (by kernel_rfl), (by kernel_rfl), (by kernel_rfl), trivial⟩ ⟨K, hb11, hd49, lk56, n53, n54, hb16, ol17, (puts_go hg (by omega) ph57), (by have o_ := writeD_opn (d := di) (a := (at_ + sk + (i : Int))) (putX (chunks l) nw i); omega)⟩
    · have ph31 := of_decide_eq_false h31
      refine WC.skip ?_
      refine WX.seqN ?_
      refine WC.seq ?_
      refine WC.region ?_
      refine WL.load (v := .agg #[.string ⟨#[]⟩, .int .u64 ((nw : Nat) : Int), .int .u64 (i : Int)]) (ldN (T := 104) (i := 0) (m := 3) (l := [.string ⟨#[]⟩, .int .u64 ((nw : Nat) : Int), .int .u64 (i : Int)]) hb29) (k := ?_)
      refine WL.callG (d := 40) (f := 51) (args := #[.agg #[.string ⟨#[]⟩, .int .u64 ((nw : Nat) : Int), .int .u64 (i : Int)]]) (fMake_ok (p := []) (e := nw) (n := i) (by first | omega | (simp; done) | (simp; omega)) (by show List.length [] ≤ _; first | omega | (simp; done) | (simp; omega)) (by omega) (by omega) w28) (k := fun e_ w59 h_ => ⟨.tuple #[.string ⟨(makeS [] nw i).toArray⟩, .int .i64 0], h_.1, ?_⟩)
      have k60 := h_.2; clear h_
      replace hb11 := k60.heap hb11 id
      replace hb12 := hb12.adds k60
      replace hb16 := hb16.adds k60
      replace hb29 := k60.heap hb29 id
      replace K := K.trans (k60.any _)
      have ml58 := makeS_len (p := []) (by first | omega | (simp; done) | (simp; omega)) nw i
      refine WL.op (d := 38) (.tuple #[.string ⟨(makeS [] nw i).toArray⟩, .int .i64 0]) (k := ?_)
      refine WL.op (d := 41) (.string ⟨(makeS [] nw i).toArray⟩) (k := ?_)
      refine WL.op (d := 42) (.int .i64 0) (k := ?_)
      refine WL.op (d := 10) (.string ⟨(makeS [] nw i).toArray⟩) (k := ?_)
      refine WL.op (d := 11) (.int .i64 0) (k := ?_)
      refine WL.nil ?_
      refine WX.seqN ?_
      refine WC.seq ?_
      have x_ : makeS [] nw i = putX (chunks l) nw i := by rw [putX, List.getD_eq_getElem?_getD, List.getElem?_eq_none (by omega)]; rfl
      refine WC.rw (t := 10) (v := .string ⟨(putX (chunks l) nw i).toArray⟩) (congrArg (fun l : List UInt8 => Value.string ⟨l.toArray⟩) x_) (k := ?_)
      have xl_ : (putX (chunks l) nw i).length = 64 := putX_len (fun _ h => chunks_mem h) nw i
      refine WC.mixed (fun k => Si k) 19 (k := fun w61 k62 => ?_)
      replace hb11 := k62.heap hb11 id
      replace hb12 := hb12.adds k62
      replace hb16 := hb16.adds k62
      replace hb29 := k62.heap hb29 id
      replace K := K.trans (k62.any _)
      have KC := Keeps.refl (fun k => Si k) w61
      have bh63 := hb11
      have bh64 := hb29
      have Kb := K
      refine WA.quiet 0 (d := 43) (.pointer (some ⟨b, 0, none⟩)) KC (hi := rfl) (k := ?_)
      refine WA.quiet 1 (d := 44) (.pointer (some ⟨b, 0, none⟩)) KC (hi := rfl) (k := ?_)
      refine WA.quiet 2 (d := 45) (.pointer (some ⟨b, 0, none⟩)) KC (hi := rfl) (k := ?_)
      refine WA.quietR 3 (d := 46) (.pointer (some ⟨dk, 0, none⟩)) KC (exec_load (fun w_ k_ => ld1 (T := 23) (i := 0) (k_.heap bh63 n14))) (hi := rfl) (k := ?_)
      refine WA.quiet 4 (d := 47) (.pointer (some ⟨b, 0, none⟩)) KC (hi := rfl) (k := ?_)
      refine WA.quiet 5 (d := 48) (.pointer (some ⟨b, 0, none⟩)) KC (hi := rfl) (k := ?_)
      refine WA.quiet 6 (d := 49) (.pointer (some ⟨b, 1, none⟩)) KC (hi := rfl) (k := ?_)
      refine WA.quietR 7 (d := 50) (.int .i64 at_) KC (exec_load (fun w_ k_ => ld1 (T := 3) (i := 1) (k_.heap bh63 n14))) (hi := rfl) (k := ?_)
      refine WA.quiet 8 (d := 51) (.int .i64 slot) KC (hi := rfl) (k := ?_)
      refine WA.quiet 9 (d := 52) (.pointer (some ⟨b, 0, none⟩)) KC (hi := rfl) (k := ?_)
      refine WA.quiet 10 (d := 53) (.pointer (some ⟨b, 0, none⟩)) KC (hi := rfl) (k := ?_)
      refine WA.quiet 11 (d := 54) (.pointer (some ⟨b, 2, none⟩)) KC (hi := rfl) (k := ?_)
      refine WA.quietR 12 (d := 55) (.int .i64 k) KC (exec_load (fun w_ k_ => ld1 (T := 3) (i := 2) (k_.heap bh63 n14))) (hi := rfl) (k := ?_)
      refine WA.quiet 13 (d := 56) (.int .i64 (IntKind.i64.wrap (slot * k))) KC (hi := rfl) (k := ?_)
      refine WA.rw (t := 56) (v := .int .i64 sk) (congrArg (Value.int .i64) ((IntWalk.i64_in _ (by omega)).trans hsk)) (k := ?_)
      refine WA.quiet 14 (d := 57) (.int .i64 (IntKind.i64.wrap (at_ + sk))) KC (hi := rfl) (k := ?_)
      refine WA.rw (t := 57) (v := .int .i64 (at_ + sk)) (congrArg (Value.int .i64) (IntWalk.i64_in _ (by omega))) (k := ?_)
      refine WA.quiet 15 (d := 58) (.int .i64 (i : Int)) KC (hi := rfl) (k := ?_)
      refine WA.quiet 16 (d := 59) (.int .i64 (IntKind.i64.wrap ((at_ + sk) + (i : Int)))) KC (hi := rfl) (k := ?_)
      refine WA.rw (t := 59) (v := .int .i64 ((at_ + sk) + (i : Int))) (congrArg (Value.int .i64) (IntWalk.i64_in _ (by omega))) (k := ?_)
      refine WA.quiet 17 (d := 60) (.string ⟨(putX (chunks l) nw i).toArray⟩) KC (hi := rfl) (k := ?_)
      refine WA.step 18 (hi := rfl) (k := ?_)
      refine WL.callG (d := 61) (f := 52) (args := #[.pointer (some ⟨dk, 0, none⟩), .int .i64 ((at_ + sk) + (i : Int)), .string ⟨(putX (chunks l) nw i).toArray⟩]) (dWrite_c (a := (at_ + sk) + (i : Int)) (l := putX (chunks l) nw i) (by omega) (by show List.length (putX (chunks l) nw i) ≤ _; first | omega | (simp; done) | (simp; omega)) hb12) (k := fun e_ w65 h_ => ?_)
      obtain ⟨rfl, S68, hd66, lk69, k67⟩ := h_
      refine ⟨_, rfl, ?_⟩
      have n70 : ¬ S68 b := fun h => (lk69 _ h).elim n14 (fun h2 => absurd (lt_of_heap hb11) (Nat.not_lt.2 h2))
      have n71 : ∀ i, blk A3 = some i → ¬ S68 i := fun i hi h => (lk69 _ h).elim (n15 i hi) (fun h2 => absurd (hb16.lt i hi) (Nat.not_lt.2 h2))
      have n72 : ¬ S68 b19 := fun h => (lk69 _ h).elim n26 (fun h2 => absurd (lt_of_heap hb29) (Nat.not_lt.2 h2))
      have lk73 := lk_step lk13 lk69 K
      replace hb11 := k67.heap hb11 n14
      replace hb16 := hb16.keeps k67 n15
      replace hb29 := k67.heap hb29 n26
      replace K := K.trans' k67 (fun i hi e => (lk13 i e).elim (fun h => h) (fun h => absurd hi (Nat.not_lt.2 h)))
      replace KC := KC.trans' k67 (fun i hi e => e)
      clear hb12
      refine WL.nil ?_
      refine WX.nxt KC ?_
      refine WA.step 19 (hi := rfl) (k := ?_)
      refine WL.op (d := 12) (.int .i64 (GDisk.writeE di ((at_ + sk) + (i : Int)) (putX (chunks l) nw i))) (k := ?_)
      refine WL.nil ?_
      refine WX.nxtL ?_
      refine WA.done (k := ?_)
      clear KC
      refine WX.seqN ?_
      refine WC.seq ?_
      refine WC.region ?_
      refine WL.op (d := 62) (.int .i64 (GDisk.writeE di ((at_ + sk) + (i : Int)) (putX (chunks l) nw i))) (k := ?_)
      refine WL.op (d := 63) (.bool ((GDisk.writeE di ((at_ + sk) + (i : Int)) (putX (chunks l) nw i)) != 0)) (k := ?_)
      refine WL.nil ?_
      refine WX.seqN ?_
      refine WC.cond (b := (GDisk.writeE di ((at_ + sk) + (i : Int)) (putX (chunks l) nw i)) != 0) (ht := fun h74 => ?_) (hf := fun h74 => ?_)
      · have ph74 := bne_iff_ne.1 h74
        refine WC.seq ?_
        refine WC.region ?_
        refine WL.op (d := 64) (.int .i64 (GDisk.writeE di ((at_ + sk) + (i : Int)) (putX (chunks l) nw i))) (k := ?_)
        refine WL.op (d := 6) (.int .i64 (GDisk.writeE di ((at_ + sk) + (i : Int)) (putX (chunks l) nw i))) (k := ?_)
        refine WL.nil ?_
        refine WX.seqN ?_
        refine WC.ret ?_
        refine WX.blockR ?_
        refine WX.seqR ?_
        refine WX.seqR ?_
        refine WX.blockR ?_
        refine WX.seqR ?_
        refine WX.ret (rs := [.tmp 6]) [.int .i64 (GDisk.writeE di ((at_ + sk) + (i : Int)) (putX (chunks l) nw i))] (.int .i64 (GDisk.writeE di ((at_ + sk) + (i : Int)) (putX (chunks l) nw i))) ⟨(by kernel_rfl), trivial⟩ (k := ?_)
        have q_ := puts_stop hg (by omega) ph74
        rw [q_]
        exact ⟨rfl, DkPost.of hd66 lk73 K⟩
      · have ph74 := of_bne_false h74
        refine WC.skip ?_
        refine WX.blockN ?_
        refine WX.seqN ?_
        refine WC.region ?_
        refine WL.opE (d := 65) (.int .i64 (IntKind.i64.wrap ((i : Int) + 1))) (v := .int .i64 ((i + 1 : Nat) : Int)) (congrArg (Value.int .i64) (by rw [IntWalk.i64_in _ (by omega)]; omega)) (k := ?_)
        refine WL.op (d := 19) (.int .i64 ((i + 1 : Nat) : Int)) (k := ?_)
        refine WL.nil ?_
        refine WX.round ((i + 1), GDisk.writeD di ((at_ + sk) + (i : Int)) (putX (chunks l) nw i), S68) (by show (k.toNat - (i + 1)) < (k.toNat - i); omega) ⟨(by kernel_rfl), (by kernel_rfl), (by kernel_rfl), (by kernel_rfl), (by kernel_rfl), (by kernel_rfl), (by kernel_rfl), (by kernel_rfl), (by kernel_rfl), (by kernel_rfl), (by kernel_rfl), trivial⟩ ⟨K, hb11, hd66, lk73, n70, n71, hb16, ol17, (puts_go hg (by omega) ph74), (by have o_ := writeD_opn (d := di) (a := (at_ + sk + (i : Int))) (putX (chunks l) nw i); omega)⟩
  · have ph18 := of_decide_eq_false h18
    refine WC.exit ?_
    refine WX.seqE ?_
    refine WX.seqE ?_
    refine WX.blockE ?_
    refine WX.seqN ?_
    refine WC.seq ?_
    refine WC.region ?_
    refine WL.op (d := 66) (.pointer (some ⟨b, 0, none⟩)) (k := ?_)
    refine WL.op (d := 67) (.pointer (some ⟨b, 0, none⟩)) (k := ?_)
    refine WL.op (d := 68) (.pointer (some ⟨b, 0, none⟩)) (k := ?_)
    refine WL.load (v := .pointer (some ⟨dk, 0, none⟩)) (ld1 (T := 23) (i := 0) hb11) (k := ?_)
    refine WL.callG (d := 70) (f := 28) (args := #[.pointer (some ⟨dk, 0, none⟩)]) (dFlush_c hb12) (k := fun e_ w75 h_ => ?_)
    obtain ⟨rfl, S78, hd76, lk79, k77⟩ := h_
    refine ⟨_, rfl, ?_⟩
    have n80 : ¬ S78 b := fun h => (lk79 _ h).elim n14 (fun h2 => absurd (lt_of_heap hb11) (Nat.not_lt.2 h2))
    have n81 : ∀ i, blk A3 = some i → ¬ S78 i := fun i hi h => (lk79 _ h).elim (n15 i hi) (fun h2 => absurd (hb16.lt i hi) (Nat.not_lt.2 h2))
    have lk82 := lk_step lk13 lk79 K
    replace hb11 := k77.heap hb11 n14
    replace hb16 := hb16.keeps k77 n15
    replace K := K.trans' k77 (fun i hi e => (lk13 i e).elim (fun h => h) (fun h => absurd hi (Nat.not_lt.2 h)))
    clear hb12
    refine WL.op (d := 6) (.int .i64 (GDisk.flushE di)) (k := ?_)
    refine WL.nil ?_
    refine WX.seqN ?_
    refine WC.ret ?_
    refine WX.ret (rs := [.tmp 6]) [.int .i64 (GDisk.flushE di)] (.int .i64 (GDisk.flushE di)) ⟨(by kernel_rfl), trivial⟩ (k := ?_)
    have q_ := puts_end hg (by omega)
    rw [q_]
    exact ⟨rfl, DkPost.of hd76 lk82 K⟩
theorem svPuts_r {S : Nat → Prop} {b dk : Nat} {d : GDisk} {at_ k slot sk : Int} {rv lv : Value} {nw : Nat} {l : List UInt8} {R : Int × GDisk} {w : World} (hsk : slot * k = sk) (s0 : 0 ≤ sk) (s1 : sk ≤ 64) (a0 : 0 ≤ at_) (a1 : at_ ≤ 1024) (k0 : 0 ≤ k) (k1 : k ≤ 64) (hb : w.heap[b]? = some (.cells #[.pointer (some ⟨dk, 0, none⟩), .int .i64 at_, .int .i64 k, rv, .int .u64 (nw : Int), lv] 81 (0, 0))) (hd : DiskAt S dk d w) (hnb : ¬ S b) (hnw : nw < 18446744073709551616) (hll : l.length ≤ 1000000) (hm : d.opn.length + 64 < 1000000) (hr : putsGo (at_ + sk) (chunks l) nw k.toNat 0 d = R) : Calls Tryz.prog 38 #[.pointer (some ⟨b, 0, none⟩), .int .i64 slot, .string ⟨l.toArray⟩] w fun e w' => e = .returned (.int .i64 R.1) ∧ DkPost S dk R.2 w w' := by
  subst hr; exact svPuts_c hsk s0 s1 a0 a1 k0 k1 hb hd hnb hnw hll hm
set_option maxRecDepth 100000 in
set_option maxHeartbeats 4000000 in
theorem svWrite_ok {S : Nat → Prop} {b dk : Nat} {d : GDisk} {at_ k la : Int} {nw : Nat} {l : List UInt8} {P : Int × GDisk} {w : World} (a0 : 0 ≤ at_) (a1 : at_ ≤ 1024) (k0 : 0 ≤ k) (k1 : k ≤ 64) (hb : w.heap[b]? = some (.cells #[.pointer (some ⟨dk, 0, none⟩), .int .i64 at_, .int .i64 k, .bool true, .int .u64 (nw : Int), .int .i64 la] 81 (0, 0))) (hd : DiskAt S dk d w) (hnb : ¬ S b) (hl : l.length ≤ k * 43) (hm : d.opn.length + 64 < 1000000) (hnw : nw + 1 < 18446744073709551616) (hP : putsGo (at_ + slotA la k) (chunks l) (nw + 1) k.toNat 0 d = P) (hE : P.1 = 0) : Calls Tryz.prog 24 #[.pointer (some ⟨b, 0, none⟩), .string ⟨l.toArray⟩] w fun e w' => e = .returned (.tuple #[.int .u64 ((nw + 1 : Nat) : Int), .int .i64 0]) ∧ w'.heap[b]? = some (.cells #[.pointer (some ⟨dk, 0, none⟩), .int .i64 at_, .int .i64 k, .bool true, .int .u64 ((nw + 1 : Nat) : Int), .int .i64 (slotN la)] 81 (0, 0)) ∧ ∃ S', DiskAt S' dk P.2 w' ∧ (∀ k, S' k → S k ∨ w.heap.size ≤ k) ∧ ¬ S' b ∧ Keeps (fun k => k = b ∨ S k) w w' := by
  have K : Keeps (fun k => k = b ∨ S k) w w := Keeps.refl _ w
  have lk0 : ∀ k, S k → S k ∨ w.heap.size ≤ k := fun k h => .inl h
  have h1 : ((Prod.fst P) != 0) = false := (by rw [hE]; rfl)
  have ph1 := of_bne_false h1
  refine Calls.start Tryz.func24 rfl (by kernel_rfl) ?_
  refine WC.seq ?_
  refine WC.region ?_
  refine WL.op (d := 4) (.int .u64 0) (k := ?_)
  refine WL.op (d := 5) (.int .i64 0) (k := ?_)
  refine WL.nil ?_
  refine WX.seqN ?_
  refine WC.seq ?_
  refine WC.block ?_
  refine WC.seq ?_
  refine WC.region ?_
  refine WL.op (d := 9) (.pointer (some ⟨b, 0, none⟩)) (k := ?_)
  refine WL.op (d := 10) (.bool false) (k := ?_)
  refine WL.op (d := 11) (.bool false) (k := ?_)
  refine WL.op (d := 12) (.string ⟨(l).toArray⟩) (k := ?_)
  refine WL.op (d := 13) (.int .i64 (l.length : Int)) (k := ?_)
  refine WL.op (d := 14) (.pointer (some ⟨b, 0, none⟩)) (k := ?_)
  refine WL.callG (d := 15) (f := 31) (args := #[.pointer (some ⟨b, 0, none⟩)]) (svRoom_b hb (by omega) (by omega)) (k := fun e_ w2 h_ => ⟨.int .i64 (k * 43), h_.1, ?_⟩)
  have k3 := h_.2; clear h_
  replace hb := k3.heap hb id
  replace hd := hd.adds k3
  replace K := K.trans (k3.any _)
  refine WL.op (d := 16) (.bool (decide ((l.length : Int) > (k * 43)))) (k := ?_)
  refine WL.op (d := 17) (.bool (decide ((l.length : Int) > (k * 43)))) (k := ?_)
  refine WL.op (d := 8) (.bool (decide ((l.length : Int) > (k * 43)))) (k := ?_)
  refine WL.nil ?_
  refine WX.seqN ?_
  refine WC.cond (b := decide ((l.length : Int) > (k * 43))) (ht := fun h4 => ?_) (hf := fun h4 => ?_)
  · have ph4 := of_decide_eq_true h4
    refine WC.seq ?_
    refine WC.region ?_
    refine WL.op (d := 4) (.int .u64 0) (k := ?_)
    refine WL.op (d := 5) (.int .i64 1) (k := ?_)
    refine WL.nil ?_
    refine WX.seqN ?_
    refine WC.ret ?_
    refine WX.blockR ?_
    refine WX.seqR ?_
    refine WX.ret (rs := [.tmp 4, .tmp 5]) [.int .u64 0, .int .i64 1] (.tuple #[.int .u64 0, .int .i64 1]) ⟨(by kernel_rfl), (by kernel_rfl), trivial⟩ (k := ?_)
    exfalso; omega
  · have ph4 := of_decide_eq_false h4
    refine WC.seq ?_
    refine WC.region ?_
    refine WL.op (d := 19) (.pointer (some ⟨b, 0, none⟩)) (k := ?_)
    refine WL.op (d := 20) (.pointer (some ⟨b, 0, none⟩)) (k := ?_)
    refine WL.op (d := 21) (.pointer (some ⟨b, 3, none⟩)) (k := ?_)
    refine WL.load (v := .bool true) (ld1 (T := 4) (i := 3) hb) (k := ?_)
    refine WL.op (d := 23) (.bool false) (k := ?_)
    refine WL.op (d := 18) (.bool false) (k := ?_)
    refine WL.nil ?_
    refine WX.seqN ?_
    refine WC.condF (k := ?_)
    refine WC.seq ?_
    refine WC.region ?_
    refine WL.op (d := 25) (.pointer (some ⟨b, 0, none⟩)) (k := ?_)
    refine WL.op (d := 26) (.pointer (some ⟨b, 0, none⟩)) (k := ?_)
    refine WL.op (d := 27) (.pointer (some ⟨b, 4, none⟩)) (k := ?_)
    refine WL.load (v := .int .u64 ((nw : Nat) : Int)) (ld1 (T := 41) (i := 4) hb) (k := ?_)
    refine WL.opE (d := 29) (.int .u64 (IntKind.u64.wrap (((nw : Nat) : Int) + 1))) (v := .int .u64 ((nw + 1 : Nat) : Int)) (congrArg (Value.int .u64) (add64 (a := nw) (b := 1) (by omega))) (k := ?_)
    refine WL.opE (d := 30) (.bool (((nw + 1 : Nat) : Int) == 0)) (v := .bool false) (congrArg Value.bool (beq_eq_false_iff_ne.2 (by omega))) (k := ?_)
    refine WL.op (d := 24) (.bool false) (k := ?_)
    refine WL.nil ?_
    refine WX.seqN ?_
    refine WC.condF (k := ?_)
    refine WC.skip ?_
    refine WX.blockN ?_
    refine WX.seqN ?_
    refine WC.seq ?_
    refine WC.region ?_
    refine WL.op (d := 6) (.int .i64 0) (k := ?_)
    refine WL.nil ?_
    refine WX.seqN ?_
    refine WC.seq ?_
    refine WC.seq ?_
    refine WC.region ?_
    refine WL.op (d := 31) (.pointer (some ⟨b, 0, none⟩)) (k := ?_)
    refine WL.op (d := 32) (.pointer (some ⟨b, 0, none⟩)) (k := ?_)
    refine WL.op (d := 33) (.pointer (some ⟨b, 5, none⟩)) (k := ?_)
    refine WL.load (v := .int .i64 la) (ld1 (T := 3) (i := 5) hb) (k := ?_)
    refine WL.op (d := 35) (.bool (la == 0)) (k := ?_)
    refine WL.nil ?_
    refine WX.seqN ?_
    refine WC.cond (b := la == 0) (ht := fun h5 => ?_) (hf := fun h5 => ?_)
    · have ph5 := eq_of_beq h5
      refine WC.region ?_
      refine WL.op (d := 6) (.int .i64 1) (k := ?_)
      refine WL.nil ?_
      refine WX.seqN ?_
      refine WC.seq ?_
      refine WC.region ?_
      refine WL.op (d := 36) (.pointer (some ⟨b, 0, none⟩)) (k := ?_)
      refine WL.op (d := 37) (.pointer (some ⟨b, 0, none⟩)) (k := ?_)
      refine WL.op (d := 38) (.pointer (some ⟨b, 4, none⟩)) (k := ?_)
      refine WL.load (v := .int .u64 ((nw : Nat) : Int)) (ld1 (T := 41) (i := 4) hb) (k := ?_)
      refine WL.opE (d := 40) (.int .u64 (IntKind.u64.wrap (((nw : Nat) : Int) + 1))) (v := .int .u64 ((nw + 1 : Nat) : Int)) (congrArg (Value.int .u64) (add64 (a := nw) (b := 1) (by omega))) (k := ?_)
      refine WL.op (d := 41) (.pointer (some ⟨b, 0, none⟩)) (k := ?_)
      refine WL.op (d := 42) (.pointer (some ⟨b, 4, none⟩)) (k := ?_)
      refine WL.store (v := .int .u64 ((nw + 1 : Nat) : Int)) (i := 4) (cs' := #[.pointer (some ⟨dk, 0, none⟩), .int .i64 at_, .int .i64 k, .bool true, .int .u64 ((nw + 1 : Nat) : Int), .int .i64 la]) hb (k := fun w6 hb7 k8 => ?_)
      replace hd := hd.keeps k8 (fun i hi e => hnb (e ▸ hi))
      replace K := K.trans' k8 (fun i hi e => .inl e)
      clear hb
      refine WL.nil ?_
      refine WX.seqN ?_
      refine WC.seq ?_
      refine WC.region ?_
      refine WL.op (d := 43) (.pointer (some ⟨b, 0, none⟩)) (k := ?_)
      refine WL.op (d := 44) (.pointer (some ⟨b, 0, none⟩)) (k := ?_)
      refine WL.op (d := 45) (.pointer (some ⟨b, 3, none⟩)) (k := ?_)
      refine WL.store (v := .bool false) (i := 3) (cs' := #[.pointer (some ⟨dk, 0, none⟩), .int .i64 at_, .int .i64 k, .bool false, .int .u64 ((nw + 1 : Nat) : Int), .int .i64 la]) hb7 (k := fun w9 hb10 k11 => ?_)
      replace hd := hd.keeps k11 (fun i hi e => hnb (e ▸ hi))
      replace K := K.trans' k11 (fun i hi e => .inl e)
      clear hb7
      refine WL.nil ?_
      refine WX.seqN ?_
      refine WC.seq ?_
      refine WC.region ?_
      refine WL.op (d := 46) (.pointer (some ⟨b, 0, none⟩)) (k := ?_)
      refine WL.op (d := 47) (.int .i64 1) (k := ?_)
      refine WL.op (d := 48) (.string ⟨(l).toArray⟩) (k := ?_)
      refine WL.callG (d := 49) (f := 38) (args := #[.pointer (some ⟨b, 0, none⟩), .int .i64 1, .string ⟨(l).toArray⟩]) (svPuts_r (R := P) (slot := 1) (sk := k) (k := k) (nw := nw + 1) (l := l) (by omega) (by omega) (by omega) (by omega) (by omega) (by omega) (by omega) hb10 hd hnb (by omega) (by omega) (by omega) (by rw [← hP, slotA, if_pos ph5])) (k := fun e_ w12 h_ => ?_)
      obtain ⟨rfl, S13, hd15, lk14, k16⟩ := h_
      refine ⟨_, rfl, ?_⟩
      have n17 : ¬ S13 b := fun h => (lk14 _ h).elim hnb (fun h2 => absurd (lt_of_heap hb10) (Nat.not_lt.2 h2))
      have lk18 := lk_step lk0 lk14 K
      replace hb10 := k16.heap hb10 hnb
      replace K := K.trans' k16 (fun i hi e => (lk0 i e).elim (fun h => .inr h) (fun h => absurd hi (Nat.not_lt.2 h)))
      clear hd
      refine WL.op (d := 7) (.int .i64 (Prod.fst P)) (k := ?_)
      refine WL.nil ?_
      refine WX.seqN ?_
      refine WC.seq ?_
      refine WC.seq ?_
      refine WC.region ?_
      refine WL.op (d := 50) (.int .i64 (Prod.fst P)) (k := ?_)
      refine WL.op (d := 51) (.bool ((Prod.fst P) != 0)) (k := ?_)
      refine WL.nil ?_
      refine WX.seqN ?_
      refine WC.rw (t := 51) (v := .bool false) (congrArg Value.bool h1) (k := ?_)
      refine WC.condF (k := ?_)
      refine WC.skip ?_
      refine WX.seqN ?_
      refine WC.seq ?_
      refine WC.region ?_
      refine WL.op (d := 53) (.pointer (some ⟨b, 0, none⟩)) (k := ?_)
      refine WL.op (d := 54) (.pointer (some ⟨b, 0, none⟩)) (k := ?_)
      refine WL.op (d := 55) (.int .i64 1) (k := ?_)
      refine WL.op (d := 56) (.pointer (some ⟨b, 0, none⟩)) (k := ?_)
      refine WL.op (d := 57) (.pointer (some ⟨b, 3, none⟩)) (k := ?_)
      refine WL.store (v := .bool true) (i := 3) (cs' := #[.pointer (some ⟨dk, 0, none⟩), .int .i64 at_, .int .i64 k, .bool true, .int .u64 ((nw + 1 : Nat) : Int), .int .i64 la]) hb10 (k := fun w19 hb20 k21 => ?_)
      replace hd15 := hd15.keeps k21 (fun i hi e => n17 (e ▸ hi))
      replace K := K.trans' k21 (fun i hi e => .inl e)
      clear hb10
      refine WL.op (d := 58) (.pointer (some ⟨b, 0, none⟩)) (k := ?_)
      refine WL.op (d := 59) (.pointer (some ⟨b, 5, none⟩)) (k := ?_)
      refine WL.store (v := .int .i64 1) (i := 5) (cs' := #[.pointer (some ⟨dk, 0, none⟩), .int .i64 at_, .int .i64 k, .bool true, .int .u64 ((nw + 1 : Nat) : Int), .int .i64 1]) hb20 (k := fun w22 hb23 k24 => ?_)
      replace hd15 := hd15.keeps k24 (fun i hi e => n17 (e ▸ hi))
      replace K := K.trans' k24 (fun i hi e => .inl e)
      clear hb20
      refine WL.nil ?_
      refine WX.seqN ?_
      refine WC.seq ?_
      refine WC.region ?_
      refine WL.op (d := 60) (.pointer (some ⟨b, 0, none⟩)) (k := ?_)
      refine WL.op (d := 61) (.pointer (some ⟨b, 0, none⟩)) (k := ?_)
      refine WL.op (d := 62) (.pointer (some ⟨b, 4, none⟩)) (k := ?_)
      refine WL.load (v := .int .u64 ((nw + 1 : Nat) : Int)) (ld1 (T := 41) (i := 4) hb23) (k := ?_)
      refine WL.op (d := 4) (.int .u64 ((nw + 1 : Nat) : Int)) (k := ?_)
      refine WL.op (d := 5) (.int .i64 0) (k := ?_)
      refine WL.nil ?_
      refine WX.seqN ?_
      refine WC.ret ?_
      refine WX.ret (rs := [.tmp 4, .tmp 5]) [.int .u64 ((nw + 1 : Nat) : Int), .int .i64 0] (.tuple #[.int .u64 ((nw + 1 : Nat) : Int), .int .i64 0]) ⟨(by kernel_rfl), (by kernel_rfl), trivial⟩ (k := ?_)
      have q_ : slotN la = 1 := if_pos ph5
      rw [q_]
      exact ⟨rfl, hb23, _, hd15, lk18, n17, K⟩
    · have ph5 := ne_of_beq_false h5
      refine WC.skip ?_
      refine WX.seqN ?_
      refine WC.seq ?_
      refine WC.region ?_
      refine WL.op (d := 36) (.pointer (some ⟨b, 0, none⟩)) (k := ?_)
      refine WL.op (d := 37) (.pointer (some ⟨b, 0, none⟩)) (k := ?_)
      refine WL.op (d := 38) (.pointer (some ⟨b, 4, none⟩)) (k := ?_)
      refine WL.load (v := .int .u64 ((nw : Nat) : Int)) (ld1 (T := 41) (i := 4) hb) (k := ?_)
      refine WL.opE (d := 40) (.int .u64 (IntKind.u64.wrap (((nw : Nat) : Int) + 1))) (v := .int .u64 ((nw + 1 : Nat) : Int)) (congrArg (Value.int .u64) (add64 (a := nw) (b := 1) (by omega))) (k := ?_)
      refine WL.op (d := 41) (.pointer (some ⟨b, 0, none⟩)) (k := ?_)
      refine WL.op (d := 42) (.pointer (some ⟨b, 4, none⟩)) (k := ?_)
      refine WL.store (v := .int .u64 ((nw + 1 : Nat) : Int)) (i := 4) (cs' := #[.pointer (some ⟨dk, 0, none⟩), .int .i64 at_, .int .i64 k, .bool true, .int .u64 ((nw + 1 : Nat) : Int), .int .i64 la]) hb (k := fun w25 hb26 k27 => ?_)
      replace hd := hd.keeps k27 (fun i hi e => hnb (e ▸ hi))
      replace K := K.trans' k27 (fun i hi e => .inl e)
      clear hb
      refine WL.nil ?_
      refine WX.seqN ?_
      refine WC.seq ?_
      refine WC.region ?_
      refine WL.op (d := 43) (.pointer (some ⟨b, 0, none⟩)) (k := ?_)
      refine WL.op (d := 44) (.pointer (some ⟨b, 0, none⟩)) (k := ?_)
      refine WL.op (d := 45) (.pointer (some ⟨b, 3, none⟩)) (k := ?_)
      refine WL.store (v := .bool false) (i := 3) (cs' := #[.pointer (some ⟨dk, 0, none⟩), .int .i64 at_, .int .i64 k, .bool false, .int .u64 ((nw + 1 : Nat) : Int), .int .i64 la]) hb26 (k := fun w28 hb29 k30 => ?_)
      replace hd := hd.keeps k30 (fun i hi e => hnb (e ▸ hi))
      replace K := K.trans' k30 (fun i hi e => .inl e)
      clear hb26
      refine WL.nil ?_
      refine WX.seqN ?_
      refine WC.seq ?_
      refine WC.region ?_
      refine WL.op (d := 46) (.pointer (some ⟨b, 0, none⟩)) (k := ?_)
      refine WL.op (d := 47) (.int .i64 0) (k := ?_)
      refine WL.op (d := 48) (.string ⟨(l).toArray⟩) (k := ?_)
      refine WL.callG (d := 49) (f := 38) (args := #[.pointer (some ⟨b, 0, none⟩), .int .i64 0, .string ⟨(l).toArray⟩]) (svPuts_r (R := P) (slot := 0) (sk := 0) (k := k) (nw := nw + 1) (l := l) (by omega) (by omega) (by omega) (by omega) (by omega) (by omega) (by omega) hb29 hd hnb (by omega) (by omega) (by omega) (by rw [← hP, slotA, if_neg ph5])) (k := fun e_ w31 h_ => ?_)
      obtain ⟨rfl, S32, hd34, lk33, k35⟩ := h_
      refine ⟨_, rfl, ?_⟩
      have n36 : ¬ S32 b := fun h => (lk33 _ h).elim hnb (fun h2 => absurd (lt_of_heap hb29) (Nat.not_lt.2 h2))
      have lk37 := lk_step lk0 lk33 K
      replace hb29 := k35.heap hb29 hnb
      replace K := K.trans' k35 (fun i hi e => (lk0 i e).elim (fun h => .inr h) (fun h => absurd hi (Nat.not_lt.2 h)))
      clear hd
      refine WL.op (d := 7) (.int .i64 (Prod.fst P)) (k := ?_)
      refine WL.nil ?_
      refine WX.seqN ?_
      refine WC.seq ?_
      refine WC.seq ?_
      refine WC.region ?_
      refine WL.op (d := 50) (.int .i64 (Prod.fst P)) (k := ?_)
      refine WL.op (d := 51) (.bool ((Prod.fst P) != 0)) (k := ?_)
      refine WL.nil ?_
      refine WX.seqN ?_
      refine WC.rw (t := 51) (v := .bool false) (congrArg Value.bool h1) (k := ?_)
      refine WC.condF (k := ?_)
      refine WC.skip ?_
      refine WX.seqN ?_
      refine WC.seq ?_
      refine WC.region ?_
      refine WL.op (d := 53) (.pointer (some ⟨b, 0, none⟩)) (k := ?_)
      refine WL.op (d := 54) (.pointer (some ⟨b, 0, none⟩)) (k := ?_)
      refine WL.op (d := 55) (.int .i64 0) (k := ?_)
      refine WL.op (d := 56) (.pointer (some ⟨b, 0, none⟩)) (k := ?_)
      refine WL.op (d := 57) (.pointer (some ⟨b, 3, none⟩)) (k := ?_)
      refine WL.store (v := .bool true) (i := 3) (cs' := #[.pointer (some ⟨dk, 0, none⟩), .int .i64 at_, .int .i64 k, .bool true, .int .u64 ((nw + 1 : Nat) : Int), .int .i64 la]) hb29 (k := fun w38 hb39 k40 => ?_)
      replace hd34 := hd34.keeps k40 (fun i hi e => n36 (e ▸ hi))
      replace K := K.trans' k40 (fun i hi e => .inl e)
      clear hb29
      refine WL.op (d := 58) (.pointer (some ⟨b, 0, none⟩)) (k := ?_)
      refine WL.op (d := 59) (.pointer (some ⟨b, 5, none⟩)) (k := ?_)
      refine WL.store (v := .int .i64 0) (i := 5) (cs' := #[.pointer (some ⟨dk, 0, none⟩), .int .i64 at_, .int .i64 k, .bool true, .int .u64 ((nw + 1 : Nat) : Int), .int .i64 0]) hb39 (k := fun w41 hb42 k43 => ?_)
      replace hd34 := hd34.keeps k43 (fun i hi e => n36 (e ▸ hi))
      replace K := K.trans' k43 (fun i hi e => .inl e)
      clear hb39
      refine WL.nil ?_
      refine WX.seqN ?_
      refine WC.seq ?_
      refine WC.region ?_
      refine WL.op (d := 60) (.pointer (some ⟨b, 0, none⟩)) (k := ?_)
      refine WL.op (d := 61) (.pointer (some ⟨b, 0, none⟩)) (k := ?_)
      refine WL.op (d := 62) (.pointer (some ⟨b, 4, none⟩)) (k := ?_)
      refine WL.load (v := .int .u64 ((nw + 1 : Nat) : Int)) (ld1 (T := 41) (i := 4) hb42) (k := ?_)
      refine WL.op (d := 4) (.int .u64 ((nw + 1 : Nat) : Int)) (k := ?_)
      refine WL.op (d := 5) (.int .i64 0) (k := ?_)
      refine WL.nil ?_
      refine WX.seqN ?_
      refine WC.ret ?_
      refine WX.ret (rs := [.tmp 4, .tmp 5]) [.int .u64 ((nw + 1 : Nat) : Int), .int .i64 0] (.tuple #[.int .u64 ((nw + 1 : Nat) : Int), .int .i64 0]) ⟨(by kernel_rfl), (by kernel_rfl), trivial⟩ (k := ?_)
      have q_ : slotN la = 0 := if_neg ph5
      rw [q_]
      exact ⟨rfl, hb42, _, hd34, lk37, n36, K⟩
set_option maxRecDepth 100000 in
set_option maxHeartbeats 4000000 in
theorem svWrite_no {S : Nat → Prop} {b dk : Nat} {d : GDisk} {at_ k la : Int} {nw : Nat} {l : List UInt8} {P : Int × GDisk} {w : World} (a0 : 0 ≤ at_) (a1 : at_ ≤ 1024) (k0 : 0 ≤ k) (k1 : k ≤ 64) (hb : w.heap[b]? = some (.cells #[.pointer (some ⟨dk, 0, none⟩), .int .i64 at_, .int .i64 k, .bool true, .int .u64 (nw : Int), .int .i64 la] 81 (0, 0))) (hd : DiskAt S dk d w) (hnb : ¬ S b) (hl : l.length ≤ k * 43) (hm : d.opn.length + 64 < 1000000) (hnw : nw + 1 < 18446744073709551616) (hP : putsGo (at_ + slotA la k) (chunks l) (nw + 1) k.toNat 0 d = P) (hE : ¬ P.1 = 0) : Calls Tryz.prog 24 #[.pointer (some ⟨b, 0, none⟩), .string ⟨l.toArray⟩] w fun e w' => e = .returned (.tuple #[.int .u64 0, .int .i64 P.1]) ∧ w'.heap[b]? = some (.cells #[.pointer (some ⟨dk, 0, none⟩), .int .i64 at_, .int .i64 k, .bool false, .int .u64 ((nw + 1 : Nat) : Int), .int .i64 la] 81 (0, 0)) ∧ ∃ S', DiskAt S' dk P.2 w' ∧ (∀ k, S' k → S k ∨ w.heap.size ≤ k) ∧ ¬ S' b ∧ Keeps (fun k => k = b ∨ S k) w w' := by
  have K : Keeps (fun k => k = b ∨ S k) w w := Keeps.refl _ w
  have lk0 : ∀ k, S k → S k ∨ w.heap.size ≤ k := fun k h => .inl h
  have h1 : ((Prod.fst P) != 0) = true := bne_iff_ne.2 hE
  have ph1 := bne_iff_ne.1 h1
  refine Calls.start Tryz.func24 rfl (by kernel_rfl) ?_
  refine WC.seq ?_
  refine WC.region ?_
  refine WL.op (d := 4) (.int .u64 0) (k := ?_)
  refine WL.op (d := 5) (.int .i64 0) (k := ?_)
  refine WL.nil ?_
  refine WX.seqN ?_
  refine WC.seq ?_
  refine WC.block ?_
  refine WC.seq ?_
  refine WC.region ?_
  refine WL.op (d := 9) (.pointer (some ⟨b, 0, none⟩)) (k := ?_)
  refine WL.op (d := 10) (.bool false) (k := ?_)
  refine WL.op (d := 11) (.bool false) (k := ?_)
  refine WL.op (d := 12) (.string ⟨(l).toArray⟩) (k := ?_)
  refine WL.op (d := 13) (.int .i64 (l.length : Int)) (k := ?_)
  refine WL.op (d := 14) (.pointer (some ⟨b, 0, none⟩)) (k := ?_)
  refine WL.callG (d := 15) (f := 31) (args := #[.pointer (some ⟨b, 0, none⟩)]) (svRoom_b hb (by omega) (by omega)) (k := fun e_ w2 h_ => ⟨.int .i64 (k * 43), h_.1, ?_⟩)
  have k3 := h_.2; clear h_
  replace hb := k3.heap hb id
  replace hd := hd.adds k3
  replace K := K.trans (k3.any _)
  refine WL.op (d := 16) (.bool (decide ((l.length : Int) > (k * 43)))) (k := ?_)
  refine WL.op (d := 17) (.bool (decide ((l.length : Int) > (k * 43)))) (k := ?_)
  refine WL.op (d := 8) (.bool (decide ((l.length : Int) > (k * 43)))) (k := ?_)
  refine WL.nil ?_
  refine WX.seqN ?_
  refine WC.cond (b := decide ((l.length : Int) > (k * 43))) (ht := fun h4 => ?_) (hf := fun h4 => ?_)
  · have ph4 := of_decide_eq_true h4
    refine WC.seq ?_
    refine WC.region ?_
    refine WL.op (d := 4) (.int .u64 0) (k := ?_)
    refine WL.op (d := 5) (.int .i64 1) (k := ?_)
    refine WL.nil ?_
    refine WX.seqN ?_
    refine WC.ret ?_
    refine WX.blockR ?_
    refine WX.seqR ?_
    refine WX.ret (rs := [.tmp 4, .tmp 5]) [.int .u64 0, .int .i64 1] (.tuple #[.int .u64 0, .int .i64 1]) ⟨(by kernel_rfl), (by kernel_rfl), trivial⟩ (k := ?_)
    exfalso; omega
  · have ph4 := of_decide_eq_false h4
    refine WC.seq ?_
    refine WC.region ?_
    refine WL.op (d := 19) (.pointer (some ⟨b, 0, none⟩)) (k := ?_)
    refine WL.op (d := 20) (.pointer (some ⟨b, 0, none⟩)) (k := ?_)
    refine WL.op (d := 21) (.pointer (some ⟨b, 3, none⟩)) (k := ?_)
    refine WL.load (v := .bool true) (ld1 (T := 4) (i := 3) hb) (k := ?_)
    refine WL.op (d := 23) (.bool false) (k := ?_)
    refine WL.op (d := 18) (.bool false) (k := ?_)
    refine WL.nil ?_
    refine WX.seqN ?_
    refine WC.condF (k := ?_)
    refine WC.seq ?_
    refine WC.region ?_
    refine WL.op (d := 25) (.pointer (some ⟨b, 0, none⟩)) (k := ?_)
    refine WL.op (d := 26) (.pointer (some ⟨b, 0, none⟩)) (k := ?_)
    refine WL.op (d := 27) (.pointer (some ⟨b, 4, none⟩)) (k := ?_)
    refine WL.load (v := .int .u64 ((nw : Nat) : Int)) (ld1 (T := 41) (i := 4) hb) (k := ?_)
    refine WL.opE (d := 29) (.int .u64 (IntKind.u64.wrap (((nw : Nat) : Int) + 1))) (v := .int .u64 ((nw + 1 : Nat) : Int)) (congrArg (Value.int .u64) (add64 (a := nw) (b := 1) (by omega))) (k := ?_)
    refine WL.opE (d := 30) (.bool (((nw + 1 : Nat) : Int) == 0)) (v := .bool false) (congrArg Value.bool (beq_eq_false_iff_ne.2 (by omega))) (k := ?_)
    refine WL.op (d := 24) (.bool false) (k := ?_)
    refine WL.nil ?_
    refine WX.seqN ?_
    refine WC.condF (k := ?_)
    refine WC.skip ?_
    refine WX.blockN ?_
    refine WX.seqN ?_
    refine WC.seq ?_
    refine WC.region ?_
    refine WL.op (d := 6) (.int .i64 0) (k := ?_)
    refine WL.nil ?_
    refine WX.seqN ?_
    refine WC.seq ?_
    refine WC.seq ?_
    refine WC.region ?_
    refine WL.op (d := 31) (.pointer (some ⟨b, 0, none⟩)) (k := ?_)
    refine WL.op (d := 32) (.pointer (some ⟨b, 0, none⟩)) (k := ?_)
    refine WL.op (d := 33) (.pointer (some ⟨b, 5, none⟩)) (k := ?_)
    refine WL.load (v := .int .i64 la) (ld1 (T := 3) (i := 5) hb) (k := ?_)
    refine WL.op (d := 35) (.bool (la == 0)) (k := ?_)
    refine WL.nil ?_
    refine WX.seqN ?_
    refine WC.cond (b := la == 0) (ht := fun h5 => ?_) (hf := fun h5 => ?_)
    · have ph5 := eq_of_beq h5
      refine WC.region ?_
      refine WL.op (d := 6) (.int .i64 1) (k := ?_)
      refine WL.nil ?_
      refine WX.seqN ?_
      refine WC.seq ?_
      refine WC.region ?_
      refine WL.op (d := 36) (.pointer (some ⟨b, 0, none⟩)) (k := ?_)
      refine WL.op (d := 37) (.pointer (some ⟨b, 0, none⟩)) (k := ?_)
      refine WL.op (d := 38) (.pointer (some ⟨b, 4, none⟩)) (k := ?_)
      refine WL.load (v := .int .u64 ((nw : Nat) : Int)) (ld1 (T := 41) (i := 4) hb) (k := ?_)
      refine WL.opE (d := 40) (.int .u64 (IntKind.u64.wrap (((nw : Nat) : Int) + 1))) (v := .int .u64 ((nw + 1 : Nat) : Int)) (congrArg (Value.int .u64) (add64 (a := nw) (b := 1) (by omega))) (k := ?_)
      refine WL.op (d := 41) (.pointer (some ⟨b, 0, none⟩)) (k := ?_)
      refine WL.op (d := 42) (.pointer (some ⟨b, 4, none⟩)) (k := ?_)
      refine WL.store (v := .int .u64 ((nw + 1 : Nat) : Int)) (i := 4) (cs' := #[.pointer (some ⟨dk, 0, none⟩), .int .i64 at_, .int .i64 k, .bool true, .int .u64 ((nw + 1 : Nat) : Int), .int .i64 la]) hb (k := fun w6 hb7 k8 => ?_)
      replace hd := hd.keeps k8 (fun i hi e => hnb (e ▸ hi))
      replace K := K.trans' k8 (fun i hi e => .inl e)
      clear hb
      refine WL.nil ?_
      refine WX.seqN ?_
      refine WC.seq ?_
      refine WC.region ?_
      refine WL.op (d := 43) (.pointer (some ⟨b, 0, none⟩)) (k := ?_)
      refine WL.op (d := 44) (.pointer (some ⟨b, 0, none⟩)) (k := ?_)
      refine WL.op (d := 45) (.pointer (some ⟨b, 3, none⟩)) (k := ?_)
      refine WL.store (v := .bool false) (i := 3) (cs' := #[.pointer (some ⟨dk, 0, none⟩), .int .i64 at_, .int .i64 k, .bool false, .int .u64 ((nw + 1 : Nat) : Int), .int .i64 la]) hb7 (k := fun w9 hb10 k11 => ?_)
      replace hd := hd.keeps k11 (fun i hi e => hnb (e ▸ hi))
      replace K := K.trans' k11 (fun i hi e => .inl e)
      clear hb7
      refine WL.nil ?_
      refine WX.seqN ?_
      refine WC.seq ?_
      refine WC.region ?_
      refine WL.op (d := 46) (.pointer (some ⟨b, 0, none⟩)) (k := ?_)
      refine WL.op (d := 47) (.int .i64 1) (k := ?_)
      refine WL.op (d := 48) (.string ⟨(l).toArray⟩) (k := ?_)
      refine WL.callG (d := 49) (f := 38) (args := #[.pointer (some ⟨b, 0, none⟩), .int .i64 1, .string ⟨(l).toArray⟩]) (svPuts_r (R := P) (slot := 1) (sk := k) (k := k) (nw := nw + 1) (l := l) (by omega) (by omega) (by omega) (by omega) (by omega) (by omega) (by omega) hb10 hd hnb (by omega) (by omega) (by omega) (by rw [← hP, slotA, if_pos ph5])) (k := fun e_ w12 h_ => ?_)
      obtain ⟨rfl, S13, hd15, lk14, k16⟩ := h_
      refine ⟨_, rfl, ?_⟩
      have n17 : ¬ S13 b := fun h => (lk14 _ h).elim hnb (fun h2 => absurd (lt_of_heap hb10) (Nat.not_lt.2 h2))
      have lk18 := lk_step lk0 lk14 K
      replace hb10 := k16.heap hb10 hnb
      replace K := K.trans' k16 (fun i hi e => (lk0 i e).elim (fun h => .inr h) (fun h => absurd hi (Nat.not_lt.2 h)))
      clear hd
      refine WL.op (d := 7) (.int .i64 (Prod.fst P)) (k := ?_)
      refine WL.nil ?_
      refine WX.seqN ?_
      refine WC.seq ?_
      refine WC.seq ?_
      refine WC.region ?_
      refine WL.op (d := 50) (.int .i64 (Prod.fst P)) (k := ?_)
      refine WL.op (d := 51) (.bool ((Prod.fst P) != 0)) (k := ?_)
      refine WL.nil ?_
      refine WX.seqN ?_
      refine WC.rw (t := 51) (v := .bool true) (congrArg Value.bool h1) (k := ?_)
      refine WC.condT (k := ?_)
      refine WC.seq ?_
      refine WC.region ?_
      refine WL.op (d := 52) (.int .i64 (Prod.fst P)) (k := ?_)
      refine WL.op (d := 4) (.int .u64 0) (k := ?_)
      refine WL.op (d := 5) (.int .i64 (Prod.fst P)) (k := ?_)
      refine WL.nil ?_
      refine WX.seqN ?_
      refine WC.ret ?_
      refine WX.seqR ?_
      refine WX.ret (rs := [.tmp 4, .tmp 5]) [.int .u64 0, .int .i64 (Prod.fst P)] (.tuple #[.int .u64 0, .int .i64 (Prod.fst P)]) ⟨(by kernel_rfl), (by kernel_rfl), trivial⟩ (k := ?_)
      exact ⟨rfl, hb10, _, hd15, lk18, n17, K⟩
    · have ph5 := ne_of_beq_false h5
      refine WC.skip ?_
      refine WX.seqN ?_
      refine WC.seq ?_
      refine WC.region ?_
      refine WL.op (d := 36) (.pointer (some ⟨b, 0, none⟩)) (k := ?_)
      refine WL.op (d := 37) (.pointer (some ⟨b, 0, none⟩)) (k := ?_)
      refine WL.op (d := 38) (.pointer (some ⟨b, 4, none⟩)) (k := ?_)
      refine WL.load (v := .int .u64 ((nw : Nat) : Int)) (ld1 (T := 41) (i := 4) hb) (k := ?_)
      refine WL.opE (d := 40) (.int .u64 (IntKind.u64.wrap (((nw : Nat) : Int) + 1))) (v := .int .u64 ((nw + 1 : Nat) : Int)) (congrArg (Value.int .u64) (add64 (a := nw) (b := 1) (by omega))) (k := ?_)
      refine WL.op (d := 41) (.pointer (some ⟨b, 0, none⟩)) (k := ?_)
      refine WL.op (d := 42) (.pointer (some ⟨b, 4, none⟩)) (k := ?_)
      refine WL.store (v := .int .u64 ((nw + 1 : Nat) : Int)) (i := 4) (cs' := #[.pointer (some ⟨dk, 0, none⟩), .int .i64 at_, .int .i64 k, .bool true, .int .u64 ((nw + 1 : Nat) : Int), .int .i64 la]) hb (k := fun w19 hb20 k21 => ?_)
      replace hd := hd.keeps k21 (fun i hi e => hnb (e ▸ hi))
      replace K := K.trans' k21 (fun i hi e => .inl e)
      clear hb
      refine WL.nil ?_
      refine WX.seqN ?_
      refine WC.seq ?_
      refine WC.region ?_
      refine WL.op (d := 43) (.pointer (some ⟨b, 0, none⟩)) (k := ?_)
      refine WL.op (d := 44) (.pointer (some ⟨b, 0, none⟩)) (k := ?_)
      refine WL.op (d := 45) (.pointer (some ⟨b, 3, none⟩)) (k := ?_)
      refine WL.store (v := .bool false) (i := 3) (cs' := #[.pointer (some ⟨dk, 0, none⟩), .int .i64 at_, .int .i64 k, .bool false, .int .u64 ((nw + 1 : Nat) : Int), .int .i64 la]) hb20 (k := fun w22 hb23 k24 => ?_)
      replace hd := hd.keeps k24 (fun i hi e => hnb (e ▸ hi))
      replace K := K.trans' k24 (fun i hi e => .inl e)
      clear hb20
      refine WL.nil ?_
      refine WX.seqN ?_
      refine WC.seq ?_
      refine WC.region ?_
      refine WL.op (d := 46) (.pointer (some ⟨b, 0, none⟩)) (k := ?_)
      refine WL.op (d := 47) (.int .i64 0) (k := ?_)
      refine WL.op (d := 48) (.string ⟨(l).toArray⟩) (k := ?_)
      refine WL.callG (d := 49) (f := 38) (args := #[.pointer (some ⟨b, 0, none⟩), .int .i64 0, .string ⟨(l).toArray⟩]) (svPuts_r (R := P) (slot := 0) (sk := 0) (k := k) (nw := nw + 1) (l := l) (by omega) (by omega) (by omega) (by omega) (by omega) (by omega) (by omega) hb23 hd hnb (by omega) (by omega) (by omega) (by rw [← hP, slotA, if_neg ph5])) (k := fun e_ w25 h_ => ?_)
      obtain ⟨rfl, S26, hd28, lk27, k29⟩ := h_
      refine ⟨_, rfl, ?_⟩
      have n30 : ¬ S26 b := fun h => (lk27 _ h).elim hnb (fun h2 => absurd (lt_of_heap hb23) (Nat.not_lt.2 h2))
      have lk31 := lk_step lk0 lk27 K
      replace hb23 := k29.heap hb23 hnb
      replace K := K.trans' k29 (fun i hi e => (lk0 i e).elim (fun h => .inr h) (fun h => absurd hi (Nat.not_lt.2 h)))
      clear hd
      refine WL.op (d := 7) (.int .i64 (Prod.fst P)) (k := ?_)
      refine WL.nil ?_
      refine WX.seqN ?_
      refine WC.seq ?_
      refine WC.seq ?_
      refine WC.region ?_
      refine WL.op (d := 50) (.int .i64 (Prod.fst P)) (k := ?_)
      refine WL.op (d := 51) (.bool ((Prod.fst P) != 0)) (k := ?_)
      refine WL.nil ?_
      refine WX.seqN ?_
      refine WC.rw (t := 51) (v := .bool true) (congrArg Value.bool h1) (k := ?_)
      refine WC.condT (k := ?_)
      refine WC.seq ?_
      refine WC.region ?_
      refine WL.op (d := 52) (.int .i64 (Prod.fst P)) (k := ?_)
      refine WL.op (d := 4) (.int .u64 0) (k := ?_)
      refine WL.op (d := 5) (.int .i64 (Prod.fst P)) (k := ?_)
      refine WL.nil ?_
      refine WX.seqN ?_
      refine WC.ret ?_
      refine WX.seqR ?_
      refine WX.ret (rs := [.tmp 4, .tmp 5]) [.int .u64 0, .int .i64 (Prod.fst P)] (.tuple #[.int .u64 0, .int .i64 (Prod.fst P)]) ⟨(by kernel_rfl), (by kernel_rfl), trivial⟩ (k := ?_)
      exact ⟨rfl, hb23, _, hd28, lk31, n30, K⟩
end Go.Proofs.YtnndkgmcjbnfbaaGreatDoor
namespace Go.Proofs.YtnndkgmcjbnfbaaGreatDoor
open Go.RowKit
set_option linter.unusedVariables false
set_option linter.unusedSimpArgs false
def viewS (d : GDisk) (a k : Int) : List (List UInt8) := (List.range' 0 k.toNat).map fun j : Nat => d.at_ (a + (j : Int))
def valE (v : Bool × Nat × List UInt8 × Nat) : Nat := if v.1 = true ∧ ¬ v.2.1 = 0 then v.2.1 else 0
def valT (v : Bool × Nat × List UInt8 × Nat) : List UInt8 := if v.1 = true ∧ ¬ v.2.1 = 0 then v.2.2.1 else []
def tellV (xs ys : List (List UInt8)) : Nat × List UInt8 × Int × Nat :=
  (if ¬ valE (slV 0 true 0 [] (slV 0 true 0 [] 0 xs).2.2.2 ys) = 0 ∧ valE (slV 0 true 0 [] 0 xs) ≤ valE (slV 0 true 0 [] (slV 0 true 0 [] 0 xs).2.2.2 ys) then valE (slV 0 true 0 [] (slV 0 true 0 [] 0 xs).2.2.2 ys) else valE (slV 0 true 0 [] 0 xs),
   if ¬ valE (slV 0 true 0 [] (slV 0 true 0 [] 0 xs).2.2.2 ys) = 0 ∧ valE (slV 0 true 0 [] 0 xs) ≤ valE (slV 0 true 0 [] (slV 0 true 0 [] 0 xs).2.2.2 ys) then valT (slV 0 true 0 [] (slV 0 true 0 [] 0 xs).2.2.2 ys) else valT (slV 0 true 0 [] 0 xs),
   if ¬ valE (slV 0 true 0 [] (slV 0 true 0 [] 0 xs).2.2.2 ys) = 0 ∧ valE (slV 0 true 0 [] 0 xs) ≤ valE (slV 0 true 0 [] (slV 0 true 0 [] 0 xs).2.2.2 ys) then 1 else if ¬ valE (slV 0 true 0 [] 0 xs) = 0 then 0 else -1,
   (slV 0 true 0 [] (slV 0 true 0 [] 0 xs).2.2.2 ys).2.2.2)
theorem svr_val (v : Bool × Nat × List UInt8 × Nat) (d : GDisk) : (⟨v.1, v.2.1, v.2.2.1, v.2.2.2, d, 0⟩ : SvR).e = valE v ∧ (⟨v.1, v.2.1, v.2.2.1, v.2.2.2, d, 0⟩ : SvR).t = valT v := by
  by_cases h : v.1 = true ∧ ¬ v.2.1 = 0
  · obtain ⟨h1, h2⟩ := SvR.e_ok (r := ⟨v.1, v.2.1, v.2.2.1, v.2.2.2, d, 0⟩) ⟨h.1, rfl, h.2⟩
    exact ⟨h1.trans (if_pos h).symm, h2.trans (if_pos h).symm⟩
  · obtain ⟨h1, h2⟩ := SvR.e_no (r := ⟨v.1, v.2.1, v.2.2.1, v.2.2.2, d, 0⟩) (fun k => h ⟨k.1, k.2.2⟩)
    exact ⟨h1.trans (if_neg h).symm, h2.trans (if_neg h).symm⟩
section
variable {S : Nat → Prop} {b dk : Nat} {sc : List (List UInt8)} {opn : List (Int × List UInt8)} {rd at_ k : Int} {w : World}
theorem chunks_fit {l : List UInt8} : ∀ {k : Nat}, 1 ≤ k → l.length ≤ 43 * k → (chunks l).length ≤ k := by
  induction h : l.length using Nat.strongRecOn generalizing l with
  | _ n ih =>
    intro k h1 h2
    by_cases h43 : l.length ≤ 43
    · rw [chunks_le h43]; simpa using h1
    · rw [chunks_gt h43, List.length_cons]
      have := ih (l.drop 43).length (by simp; omega) rfl (k := k - 1) (by omega) (by simp; omega)
      omega
end
theorem put_range {a : Nat} {c : List (List UInt8)} {e : Nat} : ∀ (f i : Nat) (secs : List (List UInt8)), a + i + f ≤ secs.length → (putsW (a : Int) c e i f).foldl GDisk.put secs = secs.take (a + i) ++ (List.range' i f).map (putX c e) ++ secs.drop (a + i + f)
  | 0, i, secs, _ => by simp [putsW]
  | f + 1, i, secs, h => by
    have e1 : putsW (a : Int) c e i (f + 1) = ((a : Int) + (i : Int), putX c e i) :: putsW (a : Int) c e (i + 1) f := by simp [putsW, List.range'_succ]
    rw [e1, List.foldl_cons, put_range f (i + 1) _ (by rw [GDisk.put_len]; omega), GDisk.put]
    have e2 : ((a : Int) + (i : Int)).toNat = a + i := by omega
    simp only [e2]
    rw [show a + (i + 1) = a + i + 1 by omega, List.drop_set_of_lt (by omega), List.range'_succ, List.map_cons, List.take_set, List.take_add_one, List.getElem?_eq_getElem (by omega)]
    rw [List.set_append, if_neg (by simp; omega)]
    simp [Nat.min_eq_left (show a + i ≤ secs.length by omega)]
    rw [show a + i + 1 + f = a + i + (f + 1) by omega]
end Go.Proofs.YtnndkgmcjbnfbaaGreatDoor
namespace Go.Proofs.YtnndkgmcjbnfbaaGreatDoor
open Go.RowKit
set_option linter.unusedVariables false
set_option linter.unusedSimpArgs false
section
variable {A B : List (List UInt8)} {f rd k : Int}
theorem view0 (h : A.length = k.toNat) : viewS ⟨A ++ B, [], f, rd⟩ (0 + 0) k = A := by
  apply List.ext_getElem
  · simp [viewS, h]
  · intro i h1 h2
    have e : ((0 : Int) + 0 + (i : Int)).toNat = i := by omega
    simp only [viewS, List.getElem_map, List.getElem_range', GDisk.at_, List.foldl_nil, Nat.zero_add, Nat.one_mul, e]
    rw [List.getD_eq_getElem?_getD, List.getElem?_append_left h2, List.getElem?_eq_getElem h2]; rfl
end
section
variable {S : Nat → Prop} {b dk e0 e1 : Nat} {t0 t1 : List UInt8} {rd : Int} {w : World}
theorem put_lenc {t : List UInt8} {e i : Nat} : (putX (chunks t) e i).length = 64 := putX_len (fun _ h => chunks_mem h) e i
theorem tgE_put {t : List UInt8} {e i : Nat} (he : e < 18446744073709551616) : tgE (putX (chunks t) e i) = e := by
  refine tgE_mk ?_ he
  rw [List.getD_eq_getElem?_getD]
  cases h : (chunks t)[i]? with
  | none => simp
  | some x => exact chunks_mem (List.mem_of_getElem? h)
end
end Go.Proofs.YtnndkgmcjbnfbaaGreatDoor
namespace Go.Proofs.YtnndkgmcjbnfbaaGreatDoor
open Go.RowKit
set_option linter.unusedVariables false
set_option linter.unusedSimpArgs false
def restF (n b : Int) : Int := Int.tmod (Int.tmod n b + b) b
theorem restF_rng {n b : Int} (h : 0 < b) : 0 ≤ restF n b ∧ restF n b < b := by
  unfold restF
  have h1 := tmod_rng n b h
  exact ⟨Int.tmod_nonneg _ (by omega), Int.tmod_lt_of_pos _ h⟩
def leftF (k a : Int) : Int := if restF k 3 = 1 then 64 else if restF k 3 = 2 then restF a 65 else 0
theorem leftF_rng (k a : Int) : 0 ≤ leftF k a ∧ leftF k a ≤ 64 := by
  unfold leftF
  have := restF_rng (n := a) (b := 65) (by decide)
  split
  · omega
  · split <;> omega
def fateF (fs : List (Int × Int)) (i : Nat) : Int := match fs[i]? with
  | some f => leftF f.1 f.2
  | none => 0
theorem fateF_rng (fs : List (Int × Int)) (i : Nat) : 0 ≤ fateF fs i ∧ fateF fs i ≤ 64 := by
  unfold fateF; split
  · exact leftF_rng _ _
  · decide
theorem fateF_some {fs : List (Int × Int)} {i : Nat} {f : Int × Int} (h : fs[i]? = some f) : fateF fs i = leftF f.1 f.2 := by rw [fateF, h]
theorem fateF_none {fs : List (Int × Int)} {i : Nat} (h : fs.length ≤ i) : fateF fs i = 0 := by rw [fateF, List.getElem?_eq_none h]
def mixS (n : Int) (x old : List UInt8) : List UInt8 := x.take n.toNat ++ old.drop n.toNat
theorem mixS_len {n : Int} {x old : List UInt8} (hx : x.length = 64) (ho : old.length = 64) : (mixS n x old).length = 64 := by
  simp [mixS, hx, ho]; omega
def crashN (fs : List (Int × Int)) (o : List (Int × List UInt8)) (s0 : List (List UInt8)) : Nat → List (List UInt8) × Int
  | 0 => (s0, 0)
  | i + 1 => match o[i]? with
    | some w => ((crashN fs o s0 i).1.set w.1.toNat (mixS (fateF fs i) w.2 ((crashN fs o s0 i).1.getD w.1.toNat [])), if fateF fs i = 64 then (crashN fs o s0 i).2 else (crashN fs o s0 i).2 + 1)
    | none => crashN fs o s0 i
section
variable {fs : List (Int × Int)} {o : List (Int × List UInt8)} {s0 : List (List UInt8)}
theorem crashN_succ {i : Nat} {w : Int × List UInt8} (h : o[i]? = some w) : crashN fs o s0 (i + 1) = ((crashN fs o s0 i).1.set w.1.toNat (mixS (fateF fs i) w.2 ((crashN fs o s0 i).1.getD w.1.toNat [])), if fateF fs i = 64 then (crashN fs o s0 i).2 else (crashN fs o s0 i).2 + 1) := by
  rw [crashN, h]
theorem crashN_len : ∀ i : Nat, (crashN fs o s0 i).1.length = s0.length
  | 0 => rfl
  | i + 1 => by
    unfold crashN; split
    · simp [crashN_len i]
    · exact crashN_len i
theorem crashN_all (ho : ∀ x ∈ o, x.2.length = 64 ∧ 0 ≤ x.1 ∧ x.1 < s0.length) (hs : ∀ s ∈ s0, s.length = 64) : ∀ (i : Nat), ∀ s ∈ (crashN fs o s0 i).1, s.length = 64
  | 0 => hs
  | i + 1 => by
    unfold crashN; split
    · next w hw =>
      intro s h
      rcases List.mem_or_eq_of_mem_set h with h | rfl
      · exact crashN_all ho hs i s h
      · obtain ⟨h1, h2, h3⟩ := ho w (List.mem_of_getElem? hw)
        refine mixS_len h1 (crashN_all ho hs i _ ?_)
        have hl := crashN_len (fs := fs) (o := o) (s0 := s0) i
        rw [List.getD_eq_getElem?_getD, List.getElem?_eq_getElem (by omega)]
        exact List.getElem_mem _
    · exact crashN_all ho hs i
theorem crashN_less (fs : List (Int × Int)) (o : List (Int × List UInt8)) (s0 : List (List UInt8)) : ∀ i : Nat, 0 ≤ (crashN fs o s0 i).2 ∧ (crashN fs o s0 i).2 ≤ i
  | 0 => by simp [crashN]
  | i + 1 => by
    have := crashN_less fs o s0 i
    unfold crashN; split
    · simp only
      split <;> omega
    · omega
end
theorem crash_step {fs : List (Int × Int)} {o : List (Int × List UInt8)} {s0 : List (List UInt8)} {i n : Int} {q : Int × List UInt8} {r : List UInt8} (h0 : 0 ≤ i) (hq : o[i.toNat]? = some q) (hr : (crashN fs o s0 i.toNat).1[q.1.toNat]? = some r) (hn : fateF fs i.toNat = n) : (crashN fs o s0 i.toNat).1.set q.1.toNat (mixS n q.2 r) = (crashN fs o s0 (i + 1).toNat).1 := by
  rw [show (i + 1).toNat = i.toNat + 1 by omega, crashN_succ hq, hn, List.getD_eq_getElem?_getD, hr]; rfl
theorem crash_l1 {fs : List (Int × Int)} {o : List (Int × List UInt8)} {s0 : List (List UInt8)} {i n : Int} {q : Int × List UInt8} (h0 : 0 ≤ i) (hq : o[i.toNat]? = some q) (hn : fateF fs i.toNat = n) (h : n = 64) : (crashN fs o s0 i.toNat).2 = (crashN fs o s0 (i + 1).toNat).2 := by
  rw [show (i + 1).toNat = i.toNat + 1 by omega, crashN_succ hq, hn]; exact (if_pos h).symm
theorem crash_l2 {fs : List (Int × Int)} {o : List (Int × List UInt8)} {s0 : List (List UInt8)} {i n : Int} {q : Int × List UInt8} (h0 : 0 ≤ i) (hq : o[i.toNat]? = some q) (hn : fateF fs i.toNat = n) (h : ¬ n = 64) : (crashN fs o s0 i.toNat).2 + 1 = (crashN fs o s0 (i + 1).toNat).2 := by
  rw [show (i + 1).toNat = i.toNat + 1 by omega, crashN_succ hq, hn]; exact (if_neg h).symm
namespace GDisk
def crashE (d : GDisk) (fs : List (Int × Int)) : Int := (crashN fs d.opn d.secs d.opn.length).2
def crashD (d : GDisk) (fs : List (Int × Int)) : GDisk := ⟨(crashN fs d.opn d.secs d.opn.length).1, [], 0, 0⟩
theorem crashD_ok {d : GDisk} (h : d.ok) (fs : List (Int × Int)) : (d.crashD fs).ok := by
  obtain ⟨h1, h2, h3, h4, h5, h6⟩ := h
  exact ⟨crashN_all h2 h1 _, by simp [crashD], by simp [crashD], by simp [crashD], by simp only [crashD]; rw [crashN_len]; exact h5, by simp [crashD]⟩
end GDisk
section
variable {α : Type} {cl : α → List Value} {m : Nat} {E : TypeId} {A : Option Addr} {cap : Nat} {xs : List α} {w w' : World}
theorem OwAt.same (h : OwAt cl m E A cap xs w) (hs : ∀ i, blk A = some i → w'.heap[i]? = w.heap[i]?) : OwAt cl m E A cap xs w' := by
  refine ⟨h.1, ?_⟩
  rcases h.2 with h1 | ⟨g, cap', cur, h1, h2, hg, h3⟩
  · exact .inl h1
  · refine .inr ⟨g, cap', cur, h1, h2, ?_, h3⟩
    simp only [Value.slice.injEq] at h1
    rw [hs g (by rw [h1.1]; rfl)]; exact hg
theorem OwAt.setN {T : TypeId} (hk : EK cl m E) (h : OwAt cl m E A cap xs w) {b o : Nat} (hA : A = some ⟨b, o, none⟩) {i : Int} (h0 : 0 ≤ i) (h1 : i < xs.length) (y : α) {old : α} (hq : xs[i.toNat]? = some old) {n : Nat} (hn : n ≤ m) (hd : (cl y).drop n = (cl old).drop n) (hT : (Tryz.prog.info? T).map (·.size) = some m) :
    ∃ w', (storeCells ⟨b, o + i.toNat * m, none⟩ ((cl y).take n)).run Tryz.prog w = .ok () w' ∧ OwAt cl m E A cap (xs.set i.toNat y) w' ∧ Keeps (fun k => blk A = some k) w w' := by
  rcases h.block with ⟨rfl, _⟩ | ⟨g, cur, rfl, hg, h2, h3, h4, h5⟩
  · cases hA
  · cases hA
    have hi : i.toNat < xs.length := by omega
    have hle : (i.toNat + 1) * m ≤ xs.length * m := Nat.mul_le_mul_right m hi
    rw [Nat.add_mul, Nat.one_mul] at hle
    have hle2 : xs.length * m ≤ cap * m := Nat.mul_le_mul_right m h2
    have hty : ((cl y).take n).length = n := by rw [List.length_take, hk.len]; omega
    have hone := oneC_of hk.one y oneC_of'
    obtain ⟨w1, hr1, hb1, hk1⟩ := run_storeCells (P := Tryz.prog) (i := 0 + i.toNat * m) ((cl y).take n) 0 w cur hg (by rw [hty]; omega) (by
      rw [List.all_eq_true] at hone ⊢
      exact fun u hu => hone u (List.mem_of_mem_take hu))
    obtain ⟨w2, hr2, hb2, hk2⟩ := run_storeCells (P := Tryz.prog) (i := 0 + i.toNat * m) (cl y) 0 w cur hg (by rw [hk.len]; omega) hone
    obtain ⟨w3, hr3, ho3, hk3⟩ := OwAt.set (T := T) hk h rfl h0 h1 y hT
    have hr23 : w3 = w2 := by
      obtain ⟨j, hj, hjs⟩ := Option.map_eq_some_iff.1 hT
      unfold storeVar at hr3
      simp [sizeOf, typeInfo, hj, hjs, Value.cells, hk.len] at hr3
      have e : (0 : Nat) + i.toNat * m = i.toNat * m := Nat.zero_add _
      rw [e] at hr2
      have h9 : Result.ok () w2 = (Result.ok () w3 : Result Unit) := hr2.symm.trans hr3
      exact (Result.ok.inj h9).2.symm
    subst hr23
    refine ⟨w1, hr1, ho3.same ?_, hk1.mono fun k _ e => by simp [blk, e]⟩
    intro k hk'
    simp only [blk, Option.map_some, Option.some.injEq] at hk'
    subst hk'
    have hel : (cur.toList.drop (i.toNat * m)).take m = cl old := by
      have := (SlAt.at (h.sl hk) h0 h1)
      obtain ⟨b', o', r, hr, hA', cs, E', fz, hh, hsz, hcl⟩ := this
      cases hA'
      rw [hg] at hh; cases hh
      rw [hq] at hr; cases hr
      simpa using hcl
    have e1 : cl y = (cl y).take n ++ (cl old).drop n := by rw [← hd, List.take_append_drop]
    have e2 : (cl y).take n ++ cur.toList.drop (i.toNat * m + n) = cl y ++ cur.toList.drop (i.toNat * m + m) := by
      conv => rhs; rw [e1]
      rw [List.append_assoc, ← hel, List.drop_take, List.drop_drop]
      have : cur.toList.drop (i.toNat * m + m) = (cur.toList.drop (i.toNat * m + n)).drop (m - n) := by rw [List.drop_drop, show i.toNat * m + n + (m - n) = i.toNat * m + m by omega]
      rw [this, List.take_append_drop]
    have key : repl cur (0 + i.toNat * m + 0) ((cl y).take n) = repl cur (0 + i.toNat * m + 0) (cl y) := by
      unfold repl
      simp only [Nat.add_zero, Nat.zero_add, hty, hk.len]
      rw [e2]
    rw [hb1, hb2, key]
end
theorem run_sliceArr {P : Program} {T E : TypeId} {b o : Nat} {n : Int} {w : World} (h0 : 0 ≤ n) (h1 : n ≤ 64) (hT : P.underlying T = some (.array 64 E) := by kernel_rfl) (hE : (P.info? E).map (·.size) = some 1 := by kernel_rfl) :
    (Instr.sliceAt T (.pointer (some ⟨b, o, none⟩)) none (some (.int .i64 n)) none).run P w = .ok (.slice (some ⟨b, o, none⟩) n.toNat 64) w := by
  obtain ⟨j, hj, hjs⟩ := Option.map_eq_some_iff.1 hE
  simp [Instr.sliceAt, run_underlying hT, Instr.sureAddr, Instr.sliceBounds, Instr.sliceBound, asIntOf, sizeOf, typeInfo, hj, hjs]
  rw [if_pos ⟨h0, h1⟩, addr_add0]
theorem run_copyEl {A : Option Addr} {c b o b7 : Nat} {xs : List (List UInt8)} {x : Int × List UInt8} {q : List UInt8} {i n : Int} {T7 ty : TypeId} {w : World} (h : OwAt secC 64 71 A c xs w) (hA : A = some ⟨b, o, none⟩) (h0 : 0 ≤ i) (h1 : i < xs.length) (hq : xs[i.toNat]? = some q) (hn0 : 0 ≤ n) (hn : n ≤ 64)
    (hb7 : w.heap[b7]? = some (.cells (Value.cells (wrV x)) T7 (0, 0))) (hx : x.2.length = 64) (hq64 : q.length = 64) :
    ∃ w', (Builtin.copy_ #[77, 77] ty #[.slice (some ⟨b, o + i.toNat * 64, none⟩) n.toNat 64, .slice (some ⟨b7, 1, none⟩) n.toNat 64]).run Tryz.prog w = .ok (.int .i64 (n.toNat : Int)) w' ∧
      OwAt secC 64 71 A c (xs.set i.toNat (mixS n x.2 q)) w' ∧ Keeps (fun k => blk A = some k) w w' := by
  have hn' : n.toNat ≤ 64 := by omega
  have hm64 := mixS_len (n := n) hx hq64
  have hc1 : (secC (mixS n x.2 q)).take n.toNat = (secC x.2).take n.toNat := by
    rw [secC_bytes hm64, secC_bytes hx, u8C_flat, u8C_flat]
    simp only [Lib.byteCells, mixS, List.map_append, ← List.map_take]
    rw [← List.map_append, ← List.map_take, List.take_append_of_le_length (by simp; omega), List.take_take, Nat.min_self]
  have hc2 : (secC (mixS n x.2 q)).drop n.toNat = (secC q).drop n.toNat := by
    rw [secC_bytes hm64, secC_bytes hq64, u8C_flat, u8C_flat]
    simp only [Lib.byteCells, ← List.map_drop, mixS]
    rw [List.drop_append_of_le_length (by simp; omega), List.drop_of_length_le (by simp; omega), List.nil_append]
  obtain ⟨w', hr, ho, hk⟩ := OwAt.setN (T := 71) ekSec h hA h0 h1 (mixS n x.2 q) hq hn' hc2 (by kernel_rfl)
  refine ⟨w', ?_, ho, hk⟩
  obtain ⟨i0, hi, hz0, hz1, hz2⟩ := info_parts infoByte
  have hsz : (Value.cells (wrV x)).size = 65 := by simp [Value.cells, wrC, secC]
  have hl := run_loadCellsFrom (P := Tryz.prog) (b := b7) (i := 1) hb7 n.toNat 0 #[] (by rw [hsz]; omega)
  rw [hc1] at hr
  simp [Builtin.copy_, run_underlying Tryz.underlying77, Builtin.lenOf, Builtin.firstCells, sizeOf, typeInfo, hi, hz1, loadCells, hl]
  rw [show (Value.cells (wrV x)).toList.tail = secC x.2 from rfl, hr]
  simp [Result.andThen, goInt]
abbrev ftC (x : Int × Int) : List Value := [.int .i64 x.1, .int .i64 x.2]
theorem ne_get {α : Type} {xs : List α} {i : Nat} {r : α} (h : xs[i]? = some r) : xs ≠ [] := fun e => by rw [e] at h; simp at h
theorem OwAt.empty {α : Type} {cl : α → List Value} {m : Nat} {E : TypeId} {b : Nat} {w : World} (hb : w.heap[b]? = some (.cells #[] E (0, 0))) : OwAt cl m E (some ⟨b, 0, none⟩) 0 [] w :=
  ⟨by simp, .inr ⟨b, 0, #[], rfl, Nat.zero_le _, hb, Nat.zero_le _, Nat.zero_le _, by simp, by simp⟩⟩
theorem dFail_at {S : Nat → Prop} {dk : Nat} {sc : List (List UInt8)} {opn : List (Int × List UInt8)} {f0 rd f : Int} {w : World} (hd : DiskAt S dk ⟨sc, opn, f0, rd⟩ w) (h0 : 0 ≤ f) (h1 : f ≤ 9223372036854775807) : Calls Tryz.prog 12 #[.pointer (some ⟨dk, 0, none⟩), .int .i64 f] w fun e w' => e = .returned (.tuple #[]) ∧ DiskAt S dk ⟨sc, opn, f, rd⟩ w' ∧ Keeps S w w' := by
  refine (dFail_c (n := f) (by omega) hd).mono ?_
  rintro e w' ⟨g1, g2, g3⟩
  have : GDisk.failD ⟨sc, opn, f0, rd⟩ f = ⟨sc, opn, f, rd⟩ := by unfold GDisk.failD; rw [if_neg (by omega)]
  rw [this] at g2
  exact ⟨g1, g2, g3⟩
theorem and3_eq {x : Int} : 0 ≤ bits .and .i64 x 3 ∧ bits .and .i64 x 3 ≤ 3 := by
  have h : (BitVec.ofInt 64 x &&& BitVec.ofInt 64 3).toNat = (BitVec.ofInt 64 x).toNat % 4 := by rw [BitVec.toNat_and, show (BitVec.ofInt 64 3).toNat = 2 ^ 2 - 1 from rfl, Nat.and_two_pow_sub_one_eq_mod]
  have e : bits .and .i64 x 3 = IntKind.wrap .i64 ((BitVec.ofInt 64 x &&& BitVec.ofInt 64 3).toNat : Int) := rfl
  rw [e, h]
  have hl := Nat.mod_lt (BitVec.ofInt 64 x).toNat (show 0 < 4 by decide)
  rw [IntWalk.i64_in _ (by omega)]
  omega
theorem and7_eq {x : Int} : 0 ≤ bits .and .i64 x 7 ∧ bits .and .i64 x 7 ≤ 7 := by
  have h : (BitVec.ofInt 64 x &&& BitVec.ofInt 64 7).toNat = (BitVec.ofInt 64 x).toNat % 8 := by rw [BitVec.toNat_and, show (BitVec.ofInt 64 7).toNat = 2 ^ 3 - 1 from rfl, Nat.and_two_pow_sub_one_eq_mod]
  have e : bits .and .i64 x 7 = IntKind.wrap .i64 ((BitVec.ofInt 64 x &&& BitVec.ofInt 64 7).toNat : Int) := rfl
  rw [e, h]
  have hl := Nat.mod_lt (BitVec.ofInt 64 x).toNat (show 0 < 8 by decide)
  rw [IntWalk.i64_in _ (by omega)]
  omega
theorem torn_tag {p old : List UInt8} {e n k : Nat} (hp : p.length ≤ 43) (ho : old.length = 64) (hk : k ≤ 64) (he : e < 18446744073709551616) (hn : n < 18446744073709551616) (hne : ¬ (epS old = e ∧ nuS old = n)) (h2 : epS ((makeS p e n).take k ++ old.drop k) = e) (h3 : nuS ((makeS p e n).take k ++ old.drop k) = n) :
    (makeS p e n).take k ++ old.drop k = makeS p e n := by
  have hl := makeS_len hp e n
  have ht : ((makeS p e n).take k ++ old.drop k).length = 64 := by simp [hl, ho]; omega
  have e1 := tag_back ht
  rw [h2, h3, ← make_tag (p := p) hp] at e1
  by_cases k48 : k ≤ 48
  · exfalso
    have e2 : ((makeS p e n).take k ++ old.drop k).drop 48 = old.drop 48 := by
      rw [List.drop_append, List.drop_of_length_le (by simp; omega)]
      simp [hl]
      congr 1; omega
    have e3 := tag_back ho
    rw [e2, make_tag hp] at e1
    rw [← e1] at e3
    unfold tagsS at e3
    obtain ⟨e4, e5⟩ := List.append_inj e3 (by rw [be_len, be_len])
    exact hne ⟨be_inj (epS_lt ho) he e4, be_inj (nuS_lt ho) hn e5⟩
  · have e2 : ((makeS p e n).take k ++ old.drop k).take 48 = (makeS p e n).take 48 := by
      rw [List.take_append_of_le_length (by simp [hl]; omega), List.take_take, Nat.min_eq_left (by omega)]
    rw [← List.take_append_drop 48 ((makeS p e n).take k ++ old.drop k), e2, ← e1, List.take_append_drop]
end Go.Proofs.YtnndkgmcjbnfbaaGreatDoor
namespace Go.Proofs.YtnndkgmcjbnfbaaGreatDoor
open Go.RowKit
set_option linter.unusedVariables false
set_option linter.unusedSimpArgs false
set_option maxRecDepth 100000 in
set_option maxHeartbeats 4000000 in
theorem dRest_c {x y : Int} (h0 : 0 < y) (h1 : y ≤ 1000) (w : World) : Calls Tryz.prog 44 #[.int .i64 x, .int .i64 y] w fun e w' => e = .returned (.int .i64 (restF x y)) ∧ Adds w w' := by
  have K : Keeps (fun _ => False) w w := Keeps.refl _ w
  refine Calls.start Tryz.func44 rfl (by kernel_rfl) ?_
  refine WC.seq ?_
  refine WC.region ?_
  refine WL.op (d := 4) (.int .i64 0) (k := ?_)
  refine WL.nil ?_
  refine WX.seqN ?_
  refine WC.seq ?_
  refine WC.region ?_
  refine WL.op (d := 5) (.int .i64 x) (k := ?_)
  refine WL.op (d := 6) (.int .i64 y) (k := ?_)
  refine WL.bin (d := 7) (v := .int .i64 (Int.tmod x y)) (rem_run (by omega)) (k := ?_)
  have m1 := tmod_rng x y (by omega)
  obtain ⟨r2, e3⟩ : ∃ r : Int, Int.tmod x y = r := ⟨_, rfl⟩
  rw [e3] at m1
  refine WL.rw (t := 7) (v := .int .i64 r2) (congrArg (Value.int .i64) e3) (k := ?_)
  refine WL.op (d := 8) (.int .i64 y) (k := ?_)
  refine WL.opE (d := 9) (.int .i64 (IntKind.i64.wrap (r2 + y))) (v := .int .i64 (r2 + y)) (congrArg (Value.int .i64) (IntWalk.i64_in _ (by omega))) (k := ?_)
  refine WL.op (d := 10) (.int .i64 y) (k := ?_)
  refine WL.bin (d := 11) (v := .int .i64 (Int.tmod (r2 + y) y)) (rem_run (by omega)) (k := ?_)
  have m4 := tmod_rng (r2 + y) y (by omega)
  obtain ⟨r5, e6⟩ : ∃ r : Int, Int.tmod (r2 + y) y = r := ⟨_, rfl⟩
  rw [e6] at m4
  refine WL.rw (t := 11) (v := .int .i64 r5) (congrArg (Value.int .i64) e6) (k := ?_)
  refine WL.op (d := 4) (.int .i64 r5) (k := ?_)
  refine WL.nil ?_
  refine WX.seqN ?_
  refine WC.ret ?_
  refine WX.ret (rs := [.tmp 4]) [.int .i64 r5] (.int .i64 r5) ⟨(by kernel_rfl), trivial⟩ (k := ?_)
  exact ⟨by rw [restF, e3, e6], K⟩
set_option maxRecDepth 100000 in
set_option maxHeartbeats 4000000 in
theorem dLeft_c {x y : Int} (w : World) : Calls Tryz.prog 30 #[.agg #[.int .i64 x, .int .i64 y]] w fun e w' => e = .returned (.int .i64 (leftF x y)) ∧ Adds w w' := by
  have K : Keeps (fun _ => False) w w := Keeps.refl _ w
  refine Calls.start Tryz.func30 rfl (by kernel_rfl) ?_
  refine WC.seq ?_
  refine WC.region ?_
  refine WL.new (d := 1) (T := 76) #[.int .i64 x, .int .i64 y] (k := fun b1 w2 g3 hb4 k5 => ?_)
  have z6 := Nat.le_trans K.size g3
  replace K := K.trans (k5.any _)
  refine WL.op (d := 2) (.int .i64 0) (k := ?_)
  refine WL.nil ?_
  refine WX.seqN ?_
  refine WC.seq ?_
  refine WC.seq ?_
  refine WC.region ?_
  refine WL.op (d := 3) (.pointer (some ⟨b1, 0, none⟩)) (k := ?_)
  refine WL.load (v := .int .i64 x) (ld1 (T := 3) (i := 0) hb4) (k := ?_)
  refine WL.callG (d := 5) (f := 44) (args := #[.int .i64 x, .int .i64 3]) (dRest_c (x := x) (y := 3) (by decide) (by decide) w2) (k := fun e_ w8 h_ => ⟨.int .i64 (restF x 3), h_.1, ?_⟩)
  have k9 := h_.2; clear h_
  replace hb4 := k9.heap hb4 id
  replace K := K.trans (k9.any _)
  have rr7 := restF_rng (n := x) (b := 3) (by decide)
  refine WL.nil ?_
  refine WX.seqN ?_
  refine WC.block ?_
  refine WC.seq ?_
  refine WC.region ?_
  refine WL.op (d := 7) (.bool ((restF x 3) == 1)) (k := ?_)
  refine WL.op (d := 6) (.bool ((restF x 3) == 1)) (k := ?_)
  refine WL.nil ?_
  refine WX.seqN ?_
  refine WC.cond (b := (restF x 3) == 1) (ht := fun h10 => ?_) (hf := fun h10 => ?_)
  · have ph10 := eq_of_beq h10
    refine WC.seq ?_
    refine WC.region ?_
    refine WL.op (d := 2) (.int .i64 64) (k := ?_)
    refine WL.nil ?_
    refine WX.seqN ?_
    refine WC.ret ?_
    refine WX.blockR ?_
    refine WX.seqR ?_
    refine WX.ret (rs := [.tmp 2]) [.int .i64 64] (.int .i64 64) ⟨(by kernel_rfl), trivial⟩ (k := ?_)
    exact ⟨by rw [leftF, if_pos ph10], K⟩
  · have ph10 := ne_of_beq_false h10
    refine WC.seq ?_
    refine WC.region ?_
    refine WL.op (d := 9) (.bool ((restF x 3) == 2)) (k := ?_)
    refine WL.op (d := 8) (.bool ((restF x 3) == 2)) (k := ?_)
    refine WL.nil ?_
    refine WX.seqN ?_
    refine WC.cond (b := (restF x 3) == 2) (ht := fun h11 => ?_) (hf := fun h11 => ?_)
    · have ph11 := eq_of_beq h11
      refine WC.seq ?_
      refine WC.region ?_
      refine WL.op (d := 10) (.pointer (some ⟨b1, 1, none⟩)) (k := ?_)
      refine WL.load (v := .int .i64 y) (ld1 (T := 3) (i := 1) hb4) (k := ?_)
      refine WL.callG (d := 12) (f := 44) (args := #[.int .i64 y, .int .i64 65]) (dRest_c (x := y) (y := 65) (by decide) (by decide) w8) (k := fun e_ w13 h_ => ⟨.int .i64 (restF y 65), h_.1, ?_⟩)
      have k14 := h_.2; clear h_
      replace hb4 := k14.heap hb4 id
      replace K := K.trans (k14.any _)
      have rr12 := restF_rng (n := y) (b := 65) (by decide)
      refine WL.op (d := 2) (.int .i64 (restF y 65)) (k := ?_)
      refine WL.nil ?_
      refine WX.seqN ?_
      refine WC.ret ?_
      refine WX.blockR ?_
      refine WX.seqR ?_
      refine WX.ret (rs := [.tmp 2]) [.int .i64 (restF y 65)] (.int .i64 (restF y 65)) ⟨(by kernel_rfl), trivial⟩ (k := ?_)
      exact ⟨by rw [leftF, if_neg ph10, if_pos ph11], K⟩
    · have ph11 := ne_of_beq_false h11
      refine WC.seq ?_
      refine WC.region ?_
      refine WL.op (d := 14) (.bool ((restF x 3) == 0)) (k := ?_)
      refine WL.op (d := 13) (.bool ((restF x 3) == 0)) (k := ?_)
      refine WL.nil ?_
      refine WX.seqN ?_
      refine WC.cond (b := (restF x 3) == 0) (ht := fun h15 => ?_) (hf := fun h15 => ?_)
      · have ph15 := eq_of_beq h15
        refine WC.seq ?_
        refine WC.region ?_
        refine WL.op (d := 2) (.int .i64 0) (k := ?_)
        refine WL.nil ?_
        refine WX.seqN ?_
        refine WC.ret ?_
        refine WX.blockR ?_
        refine WX.seqR ?_
        refine WX.ret (rs := [.tmp 2]) [.int .i64 0] (.int .i64 0) ⟨(by kernel_rfl), trivial⟩ (k := ?_)
        exact ⟨by rw [leftF, if_neg ph10, if_neg ph11], K⟩
      · have ph15 := ne_of_beq_false h15
        refine WC.skip ?_
        refine WX.blockN ?_
        refine WX.seqN ?_
        refine WC.seq ?_
        refine WC.region ?_
        refine WL.op (d := 2) (.int .i64 0) (k := ?_)
        refine WL.nil ?_
        refine WX.seqN ?_
        refine WC.ret ?_
        refine WX.ret (rs := [.tmp 2]) [.int .i64 0] (.int .i64 0) ⟨(by kernel_rfl), trivial⟩ (k := ?_)
        exact ⟨by rw [leftF, if_neg ph10, if_neg ph11], K⟩
set_option maxRecDepth 100000 in
set_option maxHeartbeats 4000000 in
theorem dCrash_c {fs : List (Int × Int)} {A : Option Addr} {cf : Nat} {S : Nat → Prop} {b : Nat} {d : GDisk} {w : World} (hd : DiskAt S b d w) (hF : SlAt ftC 2 76 A fs w) (hFo : fs ≠ [] → ∀ p, A = some p → ¬ S p.block) (hfl : fs.length ≤ 9223372036854775807) : Calls Tryz.prog 14 #[.pointer (some ⟨b, 0, none⟩), .slice A fs.length cf] w fun e w' => e = .returned (.int .i64 (d.crashE fs)) ∧ DkPost S b (d.crashD fs) w w' := by
  have K : Keeps S w w := Keeps.refl _ w
  obtain ⟨A1, c1, A2, c2, hb, h1, h2, hS, ho⟩ := hd
  have ho2 := ho
  obtain ⟨os_, ow_, of0_, of1_, on_, om_⟩ := ho2
  refine Calls.start Tryz.func14 rfl (by kernel_rfl) ?_
  refine WC.seq ?_
  refine WC.region ?_
  refine WL.op (d := 4) (.int .i64 0) (k := ?_)
  refine WL.nil ?_
  refine WX.seqN ?_
  refine WC.scope ?_
  refine WC.seq ?_
  refine WC.seq ?_
  refine WC.region ?_
  refine WL.op (d := 9) (.pointer (some ⟨b, 0, none⟩)) (k := ?_)
  refine WL.op (d := 10) (.bool false) (k := ?_)
  refine WL.nil ?_
  refine WX.seqN ?_
  refine WC.condF (k := ?_)
  refine WC.skip ?_
  refine WX.seqN ?_
  refine WC.seq ?_
  refine WC.region ?_
  refine WL.op (d := 5) (.int .i64 0) (k := ?_)
  refine WL.nil ?_
  refine WX.seqN ?_
  refine WC.seq ?_
  refine WC.label ?_
  refine WX.seqN ?_
  refine WC.seq ?_
  refine WC.seq ?_
  refine WC.region ?_
  refine WL.op (d := 11) (.pointer (some ⟨b, 0, none⟩)) (k := ?_)
  refine WL.op (d := 12) (.pointer (some ⟨b, 0, none⟩)) (k := ?_)
  refine WL.op (d := 13) (.pointer (some ⟨b, 1, none⟩)) (k := ?_)
  refine WL.load (v := .slice A2 d.opn.length c2) (ld1 (T := 50) (i := 1) hb) (k := ?_)
  refine WL.op (d := 15) (.int .i64 (d.opn.length : Int)) (k := ?_)
  refine WL.op (d := 16) (.int .i64 0) (k := ?_)
  refine WL.nil ?_
  refine WX.seqN ?_
  refine WC.block ?_
  change OwAt secC 64 71 A1 c1 (Prod.fst (crashN fs d.opn d.secs (0 : Int).toNat)) w at h1
  refine WC.rw (t := 5) (v := .int .i64 (Prod.snd (crashN fs d.opn d.secs (0 : Int).toNat))) (rfl) (k := ?_)
  refine WC.loop (ι := Int) (fun (i : Int) => [(0, .pointer (some ⟨b, 0, none⟩)), (1, .slice A fs.length cf), (4, .int .i64 0), (9, .pointer (some ⟨b, 0, none⟩)), (10, .bool false), (11, .pointer (some ⟨b, 0, none⟩)), (12, .pointer (some ⟨b, 0, none⟩)), (13, .pointer (some ⟨b, 1, none⟩)), (14, .slice A2 d.opn.length c2), (15, .int .i64 (d.opn.length : Int)), (16, .int .i64 i), (5, .int .i64 (Prod.snd (crashN fs d.opn d.secs i.toNat)))]) (fun (i : Int) (w_ : World) => (Keeps S w w_) ∧ (w_.heap[b]? = some (.cells #[.slice A1 d.secs.length c1, .slice A2 d.opn.length c2, .int .i64 d.fail, .int .i64 d.reads] 52 (0, 0))) ∧ (OwAt secC 64 71 A1 c1 (Prod.fst (crashN fs d.opn d.secs i.toNat)) w_) ∧ (OwAt wrC 65 73 A2 c2 d.opn w_) ∧ (0 ≤ i) ∧ (i ≤ d.opn.length)) (fun (i : Int) => (d.opn.length - i).toNat) 0 ⟨(by kernel_rfl), (by kernel_rfl), (by kernel_rfl), (by kernel_rfl), (by kernel_rfl), (by kernel_rfl), (by kernel_rfl), (by kernel_rfl), (by kernel_rfl), (by kernel_rfl), (by kernel_rfl), (by kernel_rfl), trivial⟩ ⟨K, hb, h1, h2, Int.le_refl 0, (by omega)⟩ ?_
  rintro i w1 ⟨K, hb2, hb3, hb5, i0, i1⟩
  have pl_ := crashN_len (fs := fs) (o := d.opn) (s0 := d.secs) i.toNat
  have pc_ := crashN_less fs d.opn d.secs i.toNat
  refine WC.seq ?_
  refine WC.region ?_
  refine WL.op (d := 17) (.bool (decide (i < (d.opn.length : Int)))) (k := ?_)
  refine WL.nil ?_
  refine WX.seqN ?_
  refine WC.seq ?_
  refine WC.cond (b := decide (i < (d.opn.length : Int))) (ht := fun h7 => ?_) (hf := fun h7 => ?_)
  · have ph7 := of_decide_eq_true h7
    refine WC.skip ?_
    refine WX.seqN ?_
    refine WC.seq ?_
    refine WC.block ?_
    refine WC.seq ?_
    refine WC.region ?_
    refine WL.op (d := 18) (.int .i64 i) (k := ?_)
    obtain ⟨b8, o9, r10, hr11, hA12, he13⟩ := SlAt.at (hb5.sl ekWr) (i := i) (by omega) (by omega)
    refine WL.rw (t := 14) (v := .slice (some ⟨b8, o9, none⟩) d.opn.length c2) (congrArg (fun a => Value.slice a d.opn.length c2) hA12) (k := ?_)
    obtain ⟨w1_, w2_, w3_⟩ := ow_ _ (List.mem_of_getElem? hr11)
    refine WL.idx (T := 50) (E := 73) (m := 65) (b := b8) (o := o9) (len := d.opn.length) (cap := c2) (i := i) (kk := .i64) (d := 19) (by omega) (by omega) (k := ?_)
    refine WL.rw (t := 14) (v := .slice A2 d.opn.length c2) (congrArg (fun a => Value.slice a d.opn.length c2) (Eq.symm hA12)) (k := ?_)
    refine WL.load (v := wrV r10) (he13.ldW (T := 73)) (k := ?_)
    refine WL.new (d := 7) (T := 73) (Value.cells (wrV (0, []))) (k := fun b14 w15 g16 hb17 k18 => ?_)
    have z19 := Nat.le_trans K.size g16
    have n20 : b ≠ b14 := Nat.ne_of_lt (Nat.lt_of_lt_of_le (lt_of_heap hb2) g16)
    have n21 := OwAt.off_new hb3 g16
    have n22 := OwAt.off_new hb5 g16
    replace hb2 := k18.heap hb2 id
    replace hb3 := hb3.adds k18
    replace hb5 := hb5.adds k18
    replace he13 := he13.adds k18
    replace K := K.trans (k18.any _)
    refine WL.op (d := 6) (.int .i64 i) (k := ?_)
    refine WL.store (v := wrV r10) (i := 0) (cs' := (Value.cells (wrV r10))) hb17 (k := fun w23 hb24 k25 => ?_)
    replace hb2 := k25.heap hb2 n20
    replace hb3 := hb3.keeps k25 (fun i hi e => (n21) (e ▸ hi))
    replace hb5 := hb5.keeps k25 (fun i hi e => (n22) (e ▸ hi))
    replace K := K.trans' k25 (fun i hi e => absurd (e ▸ hi) (Nat.not_lt.2 z19))
    clear hb17
    refine WL.nil ?_
    refine WX.seqN ?_
    refine WC.seq ?_
    refine WC.region ?_
    refine WL.op (d := 8) (.int .i64 0) (k := ?_)
    refine WL.nil ?_
    refine WX.seqN ?_
    refine WC.seq ?_
    refine WC.seq ?_
    refine WC.region ?_
    refine WL.op (d := 21) (.int .i64 i) (k := ?_)
    refine WL.op (d := 22) (.slice A fs.length cf) (k := ?_)
    refine WL.op (d := 23) (.int .i64 (fs.length : Int)) (k := ?_)
    refine WL.op (d := 24) (.bool (decide (i < (fs.length : Int)))) (k := ?_)
    refine WL.nil ?_
    refine WX.seqN ?_
    refine WC.cond (b := decide (i < (fs.length : Int))) (ht := fun h26 => ?_) (hf := fun h26 => ?_)
    · have ph26 := of_decide_eq_true h26
      refine WC.region ?_
      refine WL.op (d := 25) (.slice A fs.length cf) (k := ?_)
      refine WL.op (d := 26) (.int .i64 i) (k := ?_)
      obtain ⟨b27, o28, r29, hr30, hA31, he32⟩ := SlAt.at hF (i := i) (by omega) (by omega)
      refine WL.rw (t := 25) (v := .slice (some ⟨b27, o28, none⟩) fs.length cf) (congrArg (fun a => Value.slice a fs.length cf) hA31) (k := ?_)
      refine WL.idx (T := 43) (E := 76) (m := 2) (b := b27) (o := o28) (len := fs.length) (cap := cf) (i := i) (kk := .i64) (d := 27) (by omega) (by omega) (k := ?_)
      refine WL.rw (t := 25) (v := .slice A fs.length cf) (congrArg (fun a => Value.slice a fs.length cf) (Eq.symm hA31)) (k := ?_)
      refine WL.load (v := .agg #[.int .i64 r29.1, .int .i64 r29.2]) ((he32.keeps K (hFo (ne_get hr30) _ hA31)).ldW (T := 76)) (k := ?_)
      refine WL.callG (d := 29) (f := 30) (args := #[.agg #[.int .i64 r29.1, .int .i64 r29.2]]) (dLeft_c (x := r29.1) (y := r29.2) w23) (k := fun e_ w34 h_ => ⟨.int .i64 (leftF r29.1 r29.2), h_.1, ?_⟩)
      have k35 := h_.2; clear h_
      replace hb2 := k35.heap hb2 id
      replace hb3 := hb3.adds k35
      replace hb5 := hb5.adds k35
      replace hb24 := k35.heap hb24 id
      replace K := K.trans (k35.any _)
      have rr33 := leftF_rng r29.1 r29.2
      refine WL.op (d := 8) (.int .i64 (leftF r29.1 r29.2)) (k := ?_)
      refine WL.nil ?_
      refine WX.seqN ?_
      refine WC.seq ?_
      refine WC.mixed (fun k => blk A1 = some k) 13 (k := fun w36 k37 => ?_)
      replace hb2 := k37.heap hb2 id
      replace hb3 := hb3.adds k37
      replace hb5 := hb5.adds k37
      replace hb24 := k37.heap hb24 id
      replace K := K.trans (k37.any _)
      have KC := Keeps.refl (fun k => blk A1 = some k) w36
      have bh38 := hb2
      have bh39 := hb24
      have Kb := K
      refine WA.quiet2 0 (d := 30) (.pointer (some ⟨b, 0, none⟩)) KC (hi := rfl) (k := ?_)
      refine WA.quiet2 1 (d := 31) (.pointer (some ⟨b, 0, none⟩)) KC (hi := rfl) (k := ?_)
      refine WA.quiet2 2 (d := 32) (.pointer (some ⟨b, 0, none⟩)) KC (hi := rfl) (k := ?_)
      refine WA.quietR2 3 (d := 33) (.slice A1 d.secs.length c1) KC (exec_load (fun w_ k_ => ld1 (T := 49) (i := 0) (k_.heap bh38 (hb3.offT hb2 (by decide))))) (hi := rfl) (k := ?_)
      refine WA.quiet2 4 (d := 34) (.pointer (some ⟨b14, 0, none⟩)) KC (hi := rfl) (k := ?_)
      refine WA.quietR2 5 (d := 35) (.int .i64 r10.1) KC (exec_load (fun w_ k_ => ld1 (T := 3) (i := 0) (k_.heap bh39 n21))) (hi := rfl) (k := ?_)
      obtain ⟨b40, o41, r42, hr43, hA44, he45⟩ := SlAt.at (hb3.sl ekSec) (i := r10.1) (by omega) (by omega)
      refine WA.rw (t := 33) (v := .slice (some ⟨b40, o41, none⟩) d.secs.length c1) (congrArg (fun a => Value.slice a d.secs.length c1) hA44) (k := ?_)
      have s1_ := crashN_all (fs := fs) ow_ os_ i.toNat _ (List.mem_of_getElem? hr43)
      refine WA.quietR2 6 (d := 36) (.pointer (some ⟨b40, o41 + (r10.1).toNat * 64, none⟩)) KC (exec_idx (T := 49) (E := 71) (m := 64) (b := b40) (o := o41) (len := d.secs.length) (cap := c1) (i := r10.1) (kk := .i64) (by omega) (by omega)) (hi := rfl) (k := ?_)
      refine WA.rw (t := 33) (v := .slice A1 d.secs.length c1) (congrArg (fun a => Value.slice a d.secs.length c1) (Eq.symm hA44)) (k := ?_)
      refine WA.quiet2 7 (d := 37) (.int .i64 (leftF r29.1 r29.2)) KC (hi := rfl) (k := ?_)
      refine WA.quietR2 8 (d := 38) (.slice (some ⟨b40, o41 + (r10.1).toNat * 64, none⟩) ((leftF r29.1 r29.2).toNat) 64) KC (exec_cut (vx := .pointer (some ⟨b40, o41 + (r10.1).toNat * 64, none⟩)) (lo' := none) (hi' := (some (.int .i64 (leftF r29.1 r29.2)))) (mx' := none) (fun w_ => run_sliceArr (E := 5) (n := leftF r29.1 r29.2) (by omega) (by omega))) (hi := rfl) (k := ?_)
      refine WA.quiet2 9 (d := 39) (.pointer (some ⟨b14, 1, none⟩)) KC (hi := rfl) (k := ?_)
      refine WA.quiet2 10 (d := 40) (.int .i64 (leftF r29.1 r29.2)) KC (hi := rfl) (k := ?_)
      refine WA.quietR2 11 (d := 41) (.slice (some ⟨b14, 1, none⟩) ((leftF r29.1 r29.2).toNat) 64) KC (exec_cut (vx := .pointer (some ⟨b14, 1, none⟩)) (lo' := none) (hi' := (some (.int .i64 (leftF r29.1 r29.2)))) (mx' := none) (fun w_ => run_sliceArr (E := 5) (n := leftF r29.1 r29.2) (by omega) (by omega))) (hi := rfl) (k := ?_)
      refine WA.step 12 (hi := rfl) (k := ?_)
      obtain ⟨w46, hc47, ho48, k49⟩ := run_copyEl (i := r10.1) (n := leftF r29.1 r29.2) (x := r10) hb3 hA44 (by omega) (by omega) hr43 (by omega) (by omega) hb24 (by omega) (by omega)
      refine WL.copyB (d := 42) (vx := .slice (some ⟨b40, o41 + (r10.1).toNat * 64, none⟩) ((leftF r29.1 r29.2).toNat) 64) (vy := .slice (some ⟨b14, 1, none⟩) ((leftF r29.1 r29.2).toNat) 64) (v := _) hc47 (k := ?_)
      clear hc47
      replace hb2 := k49.heap hb2 (hb3.offT hb2 (by decide))
      replace hb5 := hb5.keeps k49 (OwAt.offOw hb5 hb3 (by decide))
      replace hb24 := k49.heap hb24 n21
      replace K := K.trans' k49 (fun i hi e => (hS i).2 (.inr (.inl e)))
      replace KC := KC.trans' k49 (fun i hi e => e)
      clear hb3
      refine WL.nil ?_
      refine WX.nxt KC ?_
      refine WA.done (k := ?_)
      clear KC
      refine WX.seqN ?_
      refine WC.seq ?_
      refine WC.seq ?_
      refine WC.region ?_
      refine WL.op (d := 43) (.int .i64 (leftF r29.1 r29.2)) (k := ?_)
      refine WL.op (d := 44) (.bool ((leftF r29.1 r29.2) == 64)) (k := ?_)
      refine WL.nil ?_
      refine WX.seqN ?_
      refine WC.cond (b := (leftF r29.1 r29.2) == 64) (ht := fun h50 => ?_) (hf := fun h50 => ?_)
      · have ph50 := eq_of_beq h50
        refine WC.exit ?_
        refine WX.seqE ?_
        refine WX.blockE ?_
        refine WX.seqN ?_
        refine WC.region ?_
        refine WL.opE (d := 47) (.int .i64 (IntKind.i64.wrap (i + 1))) (v := .int .i64 (i + 1)) (congrArg (Value.int .i64) (IntWalk.i64_in _ (by omega))) (k := ?_)
        refine WL.op (d := 16) (.int .i64 (i + 1)) (k := ?_)
        refine WL.nil ?_
        refine WX.rw (t := 5) (v := .int .i64 (Prod.snd (crashN fs d.opn d.secs (i + 1).toNat))) (congrArg (Value.int .i64) (crash_l1 i0 hr11 (fateF_some hr30) ph50)) (k := ?_)
        have e51 : List.set (Prod.fst (crashN fs d.opn d.secs i.toNat)) (r10.1).toNat (mixS (leftF r29.1 r29.2) r10.2 r42) = Prod.fst (crashN fs d.opn d.secs (i + 1).toNat) := crash_step i0 hr11 hr43 (fateF_some hr30)
        rw [e51] at ho48
        refine WX.round (i + 1) (by show (d.opn.length - (i + 1)).toNat < (d.opn.length - i).toNat; omega) ⟨(by kernel_rfl), (by kernel_rfl), (by kernel_rfl), (by kernel_rfl), (by kernel_rfl), (by kernel_rfl), (by kernel_rfl), (by kernel_rfl), (by kernel_rfl), (by kernel_rfl), (by kernel_rfl), (by kernel_rfl), trivial⟩ ⟨K, hb2, ho48, hb5, (by omega), (by omega)⟩
      · have ph50 := ne_of_beq_false h50
        refine WC.skip ?_
        refine WX.seqN ?_
        refine WC.region ?_
        refine WL.op (d := 45) (.int .i64 (Prod.snd (crashN fs d.opn d.secs i.toNat))) (k := ?_)
        refine WL.opE (d := 46) (.int .i64 (IntKind.i64.wrap ((Prod.snd (crashN fs d.opn d.secs i.toNat)) + 1))) (v := .int .i64 ((Prod.snd (crashN fs d.opn d.secs i.toNat)) + 1)) (congrArg (Value.int .i64) (IntWalk.i64_in _ (by omega))) (k := ?_)
        refine WL.op (d := 5) (.int .i64 ((Prod.snd (crashN fs d.opn d.secs i.toNat)) + 1)) (k := ?_)
        refine WL.nil ?_
        refine WX.blockN ?_
        refine WX.seqN ?_
        refine WC.region ?_
        refine WL.opE (d := 47) (.int .i64 (IntKind.i64.wrap (i + 1))) (v := .int .i64 (i + 1)) (congrArg (Value.int .i64) (IntWalk.i64_in _ (by omega))) (k := ?_)
        refine WL.op (d := 16) (.int .i64 (i + 1)) (k := ?_)
        refine WL.nil ?_
        refine WX.rw (t := 5) (v := .int .i64 (Prod.snd (crashN fs d.opn d.secs (i + 1).toNat))) (congrArg (Value.int .i64) (crash_l2 i0 hr11 (fateF_some hr30) ph50)) (k := ?_)
        have e52 : List.set (Prod.fst (crashN fs d.opn d.secs i.toNat)) (r10.1).toNat (mixS (leftF r29.1 r29.2) r10.2 r42) = Prod.fst (crashN fs d.opn d.secs (i + 1).toNat) := crash_step i0 hr11 hr43 (fateF_some hr30)
        rw [e52] at ho48
        refine WX.round (i + 1) (by show (d.opn.length - (i + 1)).toNat < (d.opn.length - i).toNat; omega) ⟨(by kernel_rfl), (by kernel_rfl), (by kernel_rfl), (by kernel_rfl), (by kernel_rfl), (by kernel_rfl), (by kernel_rfl), (by kernel_rfl), (by kernel_rfl), (by kernel_rfl), (by kernel_rfl), (by kernel_rfl), trivial⟩ ⟨K, hb2, ho48, hb5, (by omega), (by omega)⟩
    · have ph26 := of_decide_eq_false h26
      refine WC.skip ?_
      refine WX.seqN ?_
      refine WC.seq ?_
      refine WC.mixed (fun k => blk A1 = some k) 13 (k := fun w53 k54 => ?_)
      replace hb2 := k54.heap hb2 id
      replace hb3 := hb3.adds k54
      replace hb5 := hb5.adds k54
      replace hb24 := k54.heap hb24 id
      replace K := K.trans (k54.any _)
      have KC := Keeps.refl (fun k => blk A1 = some k) w53
      have bh55 := hb2
      have bh56 := hb24
      have Kb := K
      refine WA.quiet2 0 (d := 30) (.pointer (some ⟨b, 0, none⟩)) KC (hi := rfl) (k := ?_)
      refine WA.quiet2 1 (d := 31) (.pointer (some ⟨b, 0, none⟩)) KC (hi := rfl) (k := ?_)
      refine WA.quiet2 2 (d := 32) (.pointer (some ⟨b, 0, none⟩)) KC (hi := rfl) (k := ?_)
      refine WA.quietR2 3 (d := 33) (.slice A1 d.secs.length c1) KC (exec_load (fun w_ k_ => ld1 (T := 49) (i := 0) (k_.heap bh55 (hb3.offT hb2 (by decide))))) (hi := rfl) (k := ?_)
      refine WA.quiet2 4 (d := 34) (.pointer (some ⟨b14, 0, none⟩)) KC (hi := rfl) (k := ?_)
      refine WA.quietR2 5 (d := 35) (.int .i64 r10.1) KC (exec_load (fun w_ k_ => ld1 (T := 3) (i := 0) (k_.heap bh56 n21))) (hi := rfl) (k := ?_)
      obtain ⟨b57, o58, r59, hr60, hA61, he62⟩ := SlAt.at (hb3.sl ekSec) (i := r10.1) (by omega) (by omega)
      refine WA.rw (t := 33) (v := .slice (some ⟨b57, o58, none⟩) d.secs.length c1) (congrArg (fun a => Value.slice a d.secs.length c1) hA61) (k := ?_)
      have s1_ := crashN_all (fs := fs) ow_ os_ i.toNat _ (List.mem_of_getElem? hr60)
      refine WA.quietR2 6 (d := 36) (.pointer (some ⟨b57, o58 + (r10.1).toNat * 64, none⟩)) KC (exec_idx (T := 49) (E := 71) (m := 64) (b := b57) (o := o58) (len := d.secs.length) (cap := c1) (i := r10.1) (kk := .i64) (by omega) (by omega)) (hi := rfl) (k := ?_)
      refine WA.rw (t := 33) (v := .slice A1 d.secs.length c1) (congrArg (fun a => Value.slice a d.secs.length c1) (Eq.symm hA61)) (k := ?_)
      refine WA.quiet2 7 (d := 37) (.int .i64 0) KC (hi := rfl) (k := ?_)
      refine WA.quietR2 8 (d := 38) (.slice (some ⟨b57, o58 + (r10.1).toNat * 64, none⟩) 0 64) KC (exec_cut (vx := .pointer (some ⟨b57, o58 + (r10.1).toNat * 64, none⟩)) (lo' := none) (hi' := (some (.int .i64 0))) (mx' := none) (fun w_ => run_sliceArr (E := 5) (n := 0) (by omega) (by omega))) (hi := rfl) (k := ?_)
      refine WA.quiet2 9 (d := 39) (.pointer (some ⟨b14, 1, none⟩)) KC (hi := rfl) (k := ?_)
      refine WA.quiet2 10 (d := 40) (.int .i64 0) KC (hi := rfl) (k := ?_)
      refine WA.quietR2 11 (d := 41) (.slice (some ⟨b14, 1, none⟩) 0 64) KC (exec_cut (vx := .pointer (some ⟨b14, 1, none⟩)) (lo' := none) (hi' := (some (.int .i64 0))) (mx' := none) (fun w_ => run_sliceArr (E := 5) (n := 0) (by omega) (by omega))) (hi := rfl) (k := ?_)
      refine WA.step 12 (hi := rfl) (k := ?_)
      obtain ⟨w63, hc64, ho65, k66⟩ := run_copyEl (i := r10.1) (n := 0) (x := r10) hb3 hA61 (by omega) (by omega) hr60 (by omega) (by omega) hb24 (by omega) (by omega)
      refine WL.copyB (d := 42) (vx := .slice (some ⟨b57, o58 + (r10.1).toNat * 64, none⟩) 0 64) (vy := .slice (some ⟨b14, 1, none⟩) 0 64) (v := _) hc64 (k := ?_)
      clear hc64
      replace hb2 := k66.heap hb2 (hb3.offT hb2 (by decide))
      replace hb5 := hb5.keeps k66 (OwAt.offOw hb5 hb3 (by decide))
      replace hb24 := k66.heap hb24 n21
      replace K := K.trans' k66 (fun i hi e => (hS i).2 (.inr (.inl e)))
      replace KC := KC.trans' k66 (fun i hi e => e)
      clear hb3
      refine WL.nil ?_
      refine WX.nxt KC ?_
      refine WA.done (k := ?_)
      clear KC
      refine WX.seqN ?_
      refine WC.seq ?_
      refine WC.seq ?_
      refine WC.region ?_
      refine WL.op (d := 43) (.int .i64 0) (k := ?_)
      refine WL.op (d := 44) (.bool false) (k := ?_)
      refine WL.nil ?_
      refine WX.seqN ?_
      refine WC.condF (k := ?_)
      refine WC.skip ?_
      refine WX.seqN ?_
      refine WC.region ?_
      refine WL.op (d := 45) (.int .i64 (Prod.snd (crashN fs d.opn d.secs i.toNat))) (k := ?_)
      refine WL.opE (d := 46) (.int .i64 (IntKind.i64.wrap ((Prod.snd (crashN fs d.opn d.secs i.toNat)) + 1))) (v := .int .i64 ((Prod.snd (crashN fs d.opn d.secs i.toNat)) + 1)) (congrArg (Value.int .i64) (IntWalk.i64_in _ (by omega))) (k := ?_)
      refine WL.op (d := 5) (.int .i64 ((Prod.snd (crashN fs d.opn d.secs i.toNat)) + 1)) (k := ?_)
      refine WL.nil ?_
      refine WX.blockN ?_
      refine WX.seqN ?_
      refine WC.region ?_
      refine WL.opE (d := 47) (.int .i64 (IntKind.i64.wrap (i + 1))) (v := .int .i64 (i + 1)) (congrArg (Value.int .i64) (IntWalk.i64_in _ (by omega))) (k := ?_)
      refine WL.op (d := 16) (.int .i64 (i + 1)) (k := ?_)
      refine WL.nil ?_
      refine WX.rw (t := 5) (v := .int .i64 (Prod.snd (crashN fs d.opn d.secs (i + 1).toNat))) (congrArg (Value.int .i64) (crash_l2 i0 hr11 (fateF_none (by omega)) (by decide))) (k := ?_)
      have e67 : List.set (Prod.fst (crashN fs d.opn d.secs i.toNat)) (r10.1).toNat (mixS 0 r10.2 r59) = Prod.fst (crashN fs d.opn d.secs (i + 1).toNat) := crash_step i0 hr11 hr60 (fateF_none (by omega))
      rw [e67] at ho65
      refine WX.round (i + 1) (by show (d.opn.length - (i + 1)).toNat < (d.opn.length - i).toNat; omega) ⟨(by kernel_rfl), (by kernel_rfl), (by kernel_rfl), (by kernel_rfl), (by kernel_rfl), (by kernel_rfl), (by kernel_rfl), (by kernel_rfl), (by kernel_rfl), (by kernel_rfl), (by kernel_rfl), (by kernel_rfl), trivial⟩ ⟨K, hb2, ho65, hb5, (by omega), (by omega)⟩
  · have ph7 := of_decide_eq_false h7
    refine WC.exit ?_
    refine WX.seqE ?_
    refine WX.seqE ?_
    refine WX.blockE ?_
    refine WX.seqN ?_
    refine WC.seq ?_
    refine WC.region ?_
    refine WL.op (d := 48) (.pointer (some ⟨b, 0, none⟩)) (k := ?_)
    refine WL.op (d := 49) (.pointer (some ⟨b, 0, none⟩)) (k := ?_)
    refine WL.op (d := 50) (.pointer (some ⟨b, 0, none⟩)) (k := ?_)
    refine WL.op (d := 51) (.pointer (some ⟨b, 0, none⟩)) (k := ?_)
    refine WL.op (d := 52) (.pointer (some ⟨b, 1, none⟩)) (k := ?_)
    refine WL.store (v := .slice none 0 0) (i := 1) (cs' := #[.slice A1 d.secs.length c1, .slice none 0 0, .int .i64 d.fail, .int .i64 d.reads]) hb2 (k := fun w68 hb69 k70 => ?_)
    replace hb3 := hb3.keeps k70 (fun i hi e => (hb3.offT hb2 (by decide)) (e ▸ hi))
    replace hb5 := hb5.keeps k70 (fun i hi e => (hb5.offT hb2 (by decide)) (e ▸ hi))
    replace K := K.trans' k70 (fun i hi e => (hS i).2 (.inl e))
    clear hb2
    refine WL.op (d := 53) (.pointer (some ⟨b, 0, none⟩)) (k := ?_)
    refine WL.op (d := 54) (.pointer (some ⟨b, 2, none⟩)) (k := ?_)
    refine WL.store (v := .int .i64 0) (i := 2) (cs' := #[.slice A1 d.secs.length c1, .slice none 0 0, .int .i64 0, .int .i64 d.reads]) hb69 (k := fun w71 hb72 k73 => ?_)
    replace hb3 := hb3.keeps k73 (fun i hi e => (hb3.offT hb69 (by decide)) (e ▸ hi))
    replace hb5 := hb5.keeps k73 (fun i hi e => (hb5.offT hb69 (by decide)) (e ▸ hi))
    replace K := K.trans' k73 (fun i hi e => (hS i).2 (.inl e))
    clear hb69
    refine WL.op (d := 55) (.pointer (some ⟨b, 0, none⟩)) (k := ?_)
    refine WL.op (d := 56) (.pointer (some ⟨b, 3, none⟩)) (k := ?_)
    refine WL.store (v := .int .i64 0) (i := 3) (cs' := #[.slice A1 d.secs.length c1, .slice none 0 0, .int .i64 0, .int .i64 0]) hb72 (k := fun w74 hb75 k76 => ?_)
    replace hb3 := hb3.keeps k76 (fun i hi e => (hb3.offT hb72 (by decide)) (e ▸ hi))
    replace hb5 := hb5.keeps k76 (fun i hi e => (hb5.offT hb72 (by decide)) (e ▸ hi))
    replace K := K.trans' k76 (fun i hi e => (hS i).2 (.inl e))
    clear hb72
    refine WL.nil ?_
    refine WX.seqN ?_
    refine WC.seq ?_
    refine WC.region ?_
    refine WL.op (d := 57) (.int .i64 (Prod.snd (crashN fs d.opn d.secs i.toNat))) (k := ?_)
    refine WL.op (d := 4) (.int .i64 (Prod.snd (crashN fs d.opn d.secs i.toNat))) (k := ?_)
    refine WL.nil ?_
    refine WX.seqN ?_
    refine WC.ret ?_
    refine WX.scopeR ?_
    refine WX.ret (rs := [.tmp 4]) [.int .i64 (Prod.snd (crashN fs d.opn d.secs i.toNat))] (.int .i64 (Prod.snd (crashN fs d.opn d.secs i.toNat))) ⟨(by kernel_rfl), trivial⟩ (k := ?_)
    have q_ : i.toNat = d.opn.length := by omega
    rw [q_] at hb3
    rw [← crashN_len (fs := fs) (o := d.opn) (s0 := d.secs) d.opn.length] at hb75
    exact ⟨by rw [q_]; rfl, _, DiskAt.mk (d := d.crashD fs) hb75 hb3 OwAt.nil (GDisk.crashD_ok ho fs), flink hS, K⟩
end Go.Proofs.YtnndkgmcjbnfbaaGreatDoor
namespace Go.Proofs.YtnndkgmcjbnfbaaGreatDoor
open Go.RowKit
set_option linter.unusedVariables false
set_option linter.unusedSimpArgs false
def tagd (zs : List (List UInt8)) (ep : Nat) : Prop := ∀ j s, zs[j]? = some s → epS s = ep ∧ nuS s = j
theorem recS_tag {x : List UInt8} {ep i : Nat} (h : recS x ep i) : epS x = ep ∧ nuS x = i := by
  obtain ⟨h1, h2, h3⟩ := h
  rw [rdE, if_pos h1] at h2
  rw [rdN, if_pos h1] at h3
  exact ⟨h2, h3⟩
theorem slV_pos : ∀ (zs : List (List UInt8)) (i : Nat) (is : Bool) (ep nw : Nat) (dt : List UInt8), 0 < i → (slV i is ep dt nw zs).2.1 = ep ∧ ((slV i is ep dt nw zs).1 = true → is = true ∧ ∀ j s, zs[j]? = some s → epS s = ep ∧ nuS s = i + j)
  | [], i, is, ep, nw, dt, h => ⟨rfl, fun h => ⟨h, fun j s hs => by simp at hs⟩⟩
  | x :: xs, i, is, ep, nw, dt, h => by
    have e1 : ep1 i x ep = ep := if_neg (by omega)
    obtain ⟨g1, g2⟩ := slV_pos xs (i + 1) (is && decide (recS x ep i)) ep (max nw (tgE x)) (dt ++ rdP x) (by omega)
    rw [slV, e1]
    refine ⟨g1, fun ht => ?_⟩
    obtain ⟨k1, k2⟩ := g2 ht
    rw [Bool.and_eq_true] at k1
    refine ⟨k1.1, fun j s hs => ?_⟩
    cases j with
    | zero => simp at hs; subst hs; exact recS_tag (of_decide_eq_true k1.2)
    | succ j => simp at hs; obtain ⟨a1, a2⟩ := k2 j s hs; exact ⟨a1, by omega⟩
theorem slV_tagd {zs : List (List UInt8)} {nw : Nat} (h0 : zs ≠ []) (h : (slV 0 true 0 [] nw zs).1 = true) : tagd zs (slV 0 true 0 [] nw zs).2.1 := by
  cases zs with
  | nil => exact absurd rfl h0
  | cons x xs =>
    have e1 : ep1 0 x 0 = tgE x := if_pos rfl
    obtain ⟨g1, g2⟩ := slV_pos xs 1 (true && decide (recS x (tgE x) 0)) (tgE x) (max nw (tgE x)) ([] ++ rdP x) (by omega)
    rw [slV, e1] at h ⊢
    rw [g1]
    obtain ⟨k1, k2⟩ := g2 h
    intro j s hs
    cases j with
    | zero => simp at hs; subst hs; exact recS_tag (of_decide_eq_true (by simpa using k1))
    | succ j => simp at hs; obtain ⟨a1, a2⟩ := k2 j s hs; exact ⟨a1, by omega⟩
theorem slV_max : ∀ (zs : List (List UInt8)) (i : Nat) (is : Bool) (ep nw : Nat) (dt : List UInt8), nw ≤ (slV i is ep dt nw zs).2.2.2 ∧ (∀ s ∈ zs, tgE s ≤ (slV i is ep dt nw zs).2.2.2) ∧ ∀ M, nw ≤ M → (∀ s ∈ zs, tgE s ≤ M) → (slV i is ep dt nw zs).2.2.2 ≤ M
  | [], i, is, ep, nw, dt => ⟨Nat.le_refl _, fun s hs => by simp at hs, fun M h _ => h⟩
  | x :: xs, i, is, ep, nw, dt => by
    obtain ⟨g1, g2, g3⟩ := slV_max xs (i + 1) (is && decide (recS x (ep1 i x ep) i)) (ep1 i x ep) (max nw (tgE x)) (dt ++ rdP x)
    rw [slV]
    refine ⟨by omega, fun s hs => ?_, fun M h1 h2 => g3 M ?_ fun s hs => h2 s (List.mem_cons_of_mem _ hs)⟩
    · rcases List.mem_cons.1 hs with rfl | hs
      · omega
      · exact g2 s hs
    · have := h2 x (by simp); omega
theorem val_tagd {zs : List (List UInt8)} {nw : Nat} (h0 : zs ≠ []) : (valE (slV 0 true 0 [] nw zs) = 0 ∧ valT (slV 0 true 0 [] nw zs) = []) ∨ (¬ valE (slV 0 true 0 [] nw zs) = 0 ∧ tagd zs (valE (slV 0 true 0 [] nw zs))) := by
  by_cases h : (slV 0 true 0 [] nw zs).1 = true ∧ ¬ (slV 0 true 0 [] nw zs).2.1 = 0
  · refine .inr ?_
    rw [valE, if_pos h]
    exact ⟨h.2, slV_tagd h0 h.1⟩
  · exact .inl ⟨if_neg h, if_neg h⟩
structure SInv (n i : Nat) (xs ys : List (List UInt8)) (E : Nat) (T : List UInt8) (L : Int) : Prop where
  lx : xs.length = n
  ly : ys.length = n
  all : ∀ s ∈ xs ++ ys, s.length = 64 ∧ epS s ≤ i
  how : (L = -1 ∧ E = 0 ∧ T = [] ∧ (∀ ep, ¬ ep = 0 → ¬ tagd xs ep) ∧ ∀ ep, ¬ ep = 0 → ¬ tagd ys ep) ∨
    (L = 0 ∧ ¬ E = 0 ∧ E ≤ i ∧ T.length ≤ 43 * n ∧ xs = slotL n E T ∧ ∀ ep, tagd ys ep → ep < E) ∨
    (L = 1 ∧ ¬ E = 0 ∧ E ≤ i ∧ T.length ≤ 43 * n ∧ ys = slotL n E T ∧ ∀ ep, tagd xs ep → ep < E)
section
variable {n i E : Nat} {xs ys : List (List UInt8)} {T : List UInt8} {L : Int}
theorem SInv.tell (h : SInv n i xs ys E T L) (n0 : 0 < n) (n1 : n ≤ 64) (hi : i < 256) : ∃ N, tellV xs ys = (E, T, L, N) ∧ N ≤ i ∧ ∀ s ∈ xs ++ ys, epS s ≤ N := by
  obtain ⟨lx, ly, all, how⟩ := h
  have x0 : xs ≠ [] := fun e => by rw [e] at lx; simp at lx; omega
  have y0 : ys ≠ [] := fun e => by rw [e] at ly; simp at ly; omega
  have tg : ∀ s ∈ xs ++ ys, tgE s = epS s := fun s hs => if_pos (all s hs).1
  obtain ⟨a1, a2, a3⟩ := slV_max xs 0 true 0 0 []
  obtain ⟨b1, b2, b3⟩ := slV_max ys 0 true 0 (slV 0 true 0 [] 0 xs).2.2.2 []
  refine ⟨(slV 0 true 0 [] (slV 0 true 0 [] 0 xs).2.2.2 ys).2.2.2, ?_, ?_, ?_⟩
  · have hx := val_tagd (nw := 0) x0
    have hy := val_tagd (nw := (slV 0 true 0 [] 0 xs).2.2.2) y0
    unfold tellV
    rcases how with ⟨rfl, rfl, rfl, h1, h2⟩ | ⟨rfl, h1, h2, h3, h4, h5⟩ | ⟨rfl, h1, h2, h3, h4, h5⟩
    · have hx : valE (slV 0 true 0 [] 0 xs) = 0 ∧ valT (slV 0 true 0 [] 0 xs) = [] := hx.resolve_right fun k => h1 _ k.1 k.2
      have hy := hy.resolve_right fun k => h2 _ k.1 k.2
      rw [hx.1, hx.2, hy.1]
      simp
    · have hw := slV_slot (nw := 0) n0 n1 (chunks_fit n0 h3) (show E < 18446744073709551616 by omega)
      rw [← h4] at hw
      have v1 : valE (slV 0 true 0 [] 0 xs) = E := by rw [hw]; exact if_pos ⟨rfl, h1⟩
      have v2 : valT (slV 0 true 0 [] 0 xs) = T := by rw [hw]; exact if_pos ⟨rfl, h1⟩
      have hn : ¬ (¬ valE (slV 0 true 0 [] (slV 0 true 0 [] 0 xs).2.2.2 ys) = 0 ∧ E ≤ valE (slV 0 true 0 [] (slV 0 true 0 [] 0 xs).2.2.2 ys)) := by
        rcases hy with k | k
        · exact fun q => q.1 k.1
        · exact fun q => absurd (h5 _ k.2) (by omega)
      rw [v1, v2, if_neg hn, if_neg hn, if_neg hn, if_pos h1]
    · have hw := slV_slot (nw := (slV 0 true 0 [] 0 xs).2.2.2) n0 n1 (chunks_fit n0 h3) (show E < 18446744073709551616 by omega)
      rw [← h4] at hw
      have v1 : valE (slV 0 true 0 [] (slV 0 true 0 [] 0 xs).2.2.2 ys) = E := by rw [hw]; exact if_pos ⟨rfl, h1⟩
      have v2 : valT (slV 0 true 0 [] (slV 0 true 0 [] 0 xs).2.2.2 ys) = T := by rw [hw]; exact if_pos ⟨rfl, h1⟩
      have hn : ¬ E = 0 ∧ valE (slV 0 true 0 [] 0 xs) ≤ E := by
        rcases hx with k | k
        · exact ⟨h1, by omega⟩
        · exact ⟨h1, Nat.le_of_lt (h5 _ k.2)⟩
      rw [v1, v2, if_pos hn, if_pos hn, if_pos hn]
  · refine b3 _ (a3 _ (Nat.zero_le _) fun s hs => ?_) fun s hs => ?_
    · have hs := List.mem_append_left ys hs
      rw [tg s hs]; exact (all s hs).2
    · have hs := List.mem_append_right xs hs
      rw [tg s hs]; exact (all s hs).2
  · intro s hs
    rw [← tg s hs]
    rcases List.mem_append.1 hs with hs | hs
    · exact Nat.le_trans (a2 s hs) b1
    · exact b2 s hs
theorem tagd_lt {zs : List (List UInt8)} {ep N : Nat} (h0 : 0 < zs.length) (h : ∀ s ∈ zs, epS s ≤ N) (ht : tagd zs ep) : ep ≤ N := by
  have h1 := List.getElem?_eq_getElem h0
  rw [← (ht 0 _ h1).1]
  exact h _ (List.mem_of_getElem? h1)
theorem slotL_all {k e : Nat} {t : List UInt8} (he : e < 18446744073709551616) : ∀ s ∈ slotL k e t, s.length = 64 ∧ epS s = e := by
  intro s hs
  obtain ⟨j, _, rfl⟩ := List.mem_map.1 hs
  have h := put_lenc (t := t) (e := e) (i := j)
  refine ⟨h, ?_⟩
  have := tgE_put (t := t) (e := e) (i := j) he
  rwa [tgE, if_pos h] at this
theorem SInv.put0 (h : SInv n i xs ys E T L) {N : Nat} {l : List UInt8} (hN : N ≤ i) (hall : ∀ s ∈ xs ++ ys, epS s ≤ N) (n0 : 0 < n) (hi : i < 255) (hl : l.length ≤ 43 * n) : SInv n (i + 1) (slotL n (N + 1) l) ys (N + 1) l 0 := by
  refine ⟨by simp [slotL], h.ly, fun s hs => ?_, .inr (.inl ⟨rfl, by omega, by omega, hl, rfl, fun ep ht => ?_⟩)⟩
  · rcases List.mem_append.1 hs with hs | hs
    · obtain ⟨a1, a2⟩ := slotL_all (by omega) s hs
      exact ⟨a1, by omega⟩
    · obtain ⟨a1, a2⟩ := h.all s (List.mem_append_right _ hs)
      exact ⟨a1, by omega⟩
  · have := tagd_lt (by rw [h.ly]; exact n0) (fun s hs => hall s (List.mem_append_right _ hs)) ht
    omega
theorem SInv.put1 (h : SInv n i xs ys E T L) {N : Nat} {l : List UInt8} (hN : N ≤ i) (hall : ∀ s ∈ xs ++ ys, epS s ≤ N) (n0 : 0 < n) (hi : i < 255) (hl : l.length ≤ 43 * n) : SInv n (i + 1) xs (slotL n (N + 1) l) (N + 1) l 1 := by
  refine ⟨h.lx, by simp [slotL], fun s hs => ?_, .inr (.inr ⟨rfl, by omega, by omega, hl, rfl, fun ep ht => ?_⟩)⟩
  · rcases List.mem_append.1 hs with hs | hs
    · obtain ⟨a1, a2⟩ := h.all s (List.mem_append_left _ hs)
      exact ⟨a1, by omega⟩
    · obtain ⟨a1, a2⟩ := slotL_all (by omega) s hs
      exact ⟨a1, by omega⟩
  · have := tagd_lt (by rw [h.lx]; exact n0) (fun s hs => hall s (List.mem_append_left _ hs)) ht
    omega
end
theorem be_small {e : Nat} (h : e < 256) : be 8 e = [0, 0, 0, 0, 0, 0, 0, UInt8.ofNat e] := by
  have h2 : ∀ k : Nat, 256 ≤ k → e / k = 0 := fun k hk => Nat.div_eq_of_lt (by omega)
  simp [be, h2, Nat.div_div_eq_div_mul]
  rw [Nat.mod_eq_of_lt h]
theorem mix_tag {p old : List UInt8} {e n k : Nat} (hp : p.length ≤ 43) (ho : old.length = 64) (hk : k ≤ 64) (he : e < 256) (hoe : epS old < 256) :
    epS ((makeS p e n).take k ++ old.drop k) = e ∨ (epS ((makeS p e n).take k ++ old.drop k) = epS old ∧ nuS ((makeS p e n).take k ++ old.drop k) = nuS old) := by
  have hl := makeS_len hp e n
  by_cases k56 : 56 ≤ k
  · refine .inl ?_
    have e1 : (((makeS p e n).take k ++ old.drop k).drop 48).take 8 = ((makeS p e n).drop 48).take 8 := by
      rw [List.drop_append_of_le_length (by simp [hl]; omega), List.take_append_of_le_length (by simp [hl]; omega), List.drop_take, List.take_take, Nat.min_eq_left (by omega)]
    have e2 : epS ((makeS p e n).take k ++ old.drop k) = epS (makeS p e n) := by unfold epS; rw [e1]
    rw [e2]; exact make_ep hp (by omega)
  · refine .inr ⟨?_, ?_⟩
    · have a1 : ((makeS p e n).drop 48).take 8 = be 8 e := by
        rw [make_tag hp, tagsS, List.take_left' (be_len 8 e)]
      have a2 : (old.drop 48).take 8 = be 8 (epS old) := by
        have := tag_back ho
        rw [← this, tagsS, List.take_left' (be_len 8 _)]
      by_cases k48 : k ≤ 48
      · have e2 : ((makeS p e n).take k ++ old.drop k).drop 48 = old.drop 48 := by
          rw [List.drop_append, List.drop_of_length_le (by simp; omega)]
          simp [hl]
          congr 1; omega
        unfold epS; rw [e2]
      · have e1 : (((makeS p e n).take k ++ old.drop k).drop 48).take 8 = (((makeS p e n).drop 48).take 8).take (k - 48) ++ ((old.drop 48).take 8).drop (k - 48) := by
          rw [List.drop_append_of_le_length (by simp [hl]; omega), List.drop_take, List.take_append, List.take_take, List.take_take]
          simp only [List.length_take, List.length_drop, hl]
          rw [show min 8 (k - 48) = k - 48 by omega, show min (k - 48) 8 = k - 48 by omega, List.drop_take, List.drop_drop, show 48 + (k - 48) = k by omega, show min (k - 48) (64 - 48) = k - 48 by omega]
        rw [a1, a2, be_small he, be_small hoe] at e1
        have e2 : (((makeS p e n).take k ++ old.drop k).drop 48).take 8 = (old.drop 48).take 8 := by
          rw [e1, a2, be_small hoe]
          rcases (show k - 48 = 1 ∨ k - 48 = 2 ∨ k - 48 = 3 ∨ k - 48 = 4 ∨ k - 48 = 5 ∨ k - 48 = 6 ∨ k - 48 = 7 by omega) with h | h | h | h | h | h | h <;> rw [h] <;> rfl
        unfold epS; rw [e2]
    · have e2 : ((makeS p e n).take k ++ old.drop k).drop 56 = old.drop 56 := by
        rw [List.drop_append, List.drop_of_length_le (by simp; omega)]
        simp [hl]
        congr 1; omega
      unfold nuS; rw [e2]
def mixL (fs : List (Int × Int)) (c : List (List UInt8)) (e m : Nat) (old : List (List UInt8)) : List (List UInt8) := old.mapIdx fun j s => if j < m then mixS (fateF fs j) (putX c e j) s else s
theorem mixL_at {fs : List (Int × Int)} {c old : List (List UInt8)} {e m j : Nat} : (mixL fs c e m old)[j]? = (old[j]?).map fun s => if j < m then mixS (fateF fs j) (putX c e j) s else s := by
  unfold mixL; rw [List.getElem?_mapIdx]
theorem crash_at {fs : List (Int × Int)} {c secs : List (List UInt8)} {e a M : Nat} : ∀ m : Nat, m ≤ M → ∀ p, (crashN fs (putsW (a : Int) c e 0 M) secs m).1[p]? = (secs[p]?).map fun s => if a ≤ p ∧ p < a + m then mixS (fateF fs (p - a)) (putX c e (p - a)) s else s
  | 0, _, p => by
    rw [crashN]
    cases h : secs[p]? with
    | none => rfl
    | some s => rw [Option.map_some, if_neg (by omega)]
  | m + 1, hm, p => by
    have ho : (putsW (a : Int) c e 0 M)[m]? = some ((a : Int) + (m : Int), putX c e m) := by
      unfold putsW
      rw [List.getElem?_map, List.getElem?_range' (by omega)]
      simp
    have ih := crash_at (fs := fs) (c := c) (secs := secs) (e := e) (a := a) (M := M) m (by omega)
    rw [crashN_succ ho]
    have ea : ((a : Int) + (m : Int)).toNat = a + m := by omega
    simp only [ea]
    rw [List.getElem?_set]
    by_cases hp : a + m = p
    · subst hp
      rw [if_pos rfl]
      have h1 := ih (a + m)
      have hlen := crashN_len (fs := fs) (o := putsW (a : Int) c e 0 M) (s0 := secs) m
      by_cases hlt : a + m < secs.length
      · rw [List.getElem?_eq_getElem hlt, Option.map_some, if_neg (by omega)] at h1
        rw [if_pos (by rw [hlen]; exact hlt), List.getD_eq_getElem?_getD, h1, List.getElem?_eq_getElem hlt, Option.map_some, if_pos (by omega), show a + m - a = m by omega]; rfl
      · rw [if_neg (by rw [hlen]; exact hlt), List.getElem?_eq_none (by omega)]; rfl
    · rw [if_neg hp, ih p]
      cases h : secs[p]? with
      | none => rfl
      | some s =>
        rw [Option.map_some, Option.map_some]
        by_cases hq : a ≤ p ∧ p < a + m
        · rw [if_pos hq, if_pos (by omega)]
        · rw [if_neg hq, if_neg (by omega)]
theorem putsW_len {a : Int} {c : List (List UInt8)} {e m : Nat} : (putsW a c e 0 m).length = m := by simp [putsW]
theorem crash_s0 {fs : List (Int × Int)} {c xs ys : List (List UInt8)} {e m : Nat} (hm : m ≤ xs.length) : (crashN fs (putsW ((0 : Nat) : Int) c e 0 m) (xs ++ ys) (putsW ((0 : Nat) : Int) c e 0 m).length).1 = mixL fs c e m xs ++ ys := by
  rw [putsW_len]
  apply List.ext_getElem?
  intro p
  rw [crash_at m (Nat.le_refl _) p]
  have hl : (mixL fs c e m xs).length = xs.length := by simp [mixL]
  by_cases hp : p < xs.length
  · rw [List.getElem?_append_left hp, List.getElem?_append_left (by omega), mixL_at]
    congr 1; funext s
    by_cases hq : p < m
    · rw [if_pos (by omega), if_pos hq]; rfl
    · rw [if_neg (by omega), if_neg hq]
  · rw [List.getElem?_append_right (by omega), List.getElem?_append_right (by omega), hl]
    cases ys[p - xs.length]? with
    | none => rfl
    | some s => rw [Option.map_some, if_neg (by omega)]
theorem crash_s1 {fs : List (Int × Int)} {c xs ys : List (List UInt8)} {e m : Nat} (hm : m ≤ ys.length) : (crashN fs (putsW ((xs.length : Nat) : Int) c e 0 m) (xs ++ ys) (putsW ((xs.length : Nat) : Int) c e 0 m).length).1 = xs ++ mixL fs c e m ys := by
  rw [putsW_len]
  apply List.ext_getElem?
  intro p
  rw [crash_at m (Nat.le_refl _) p]
  by_cases hp : p < xs.length
  · rw [List.getElem?_append_left hp, List.getElem?_append_left hp, List.getElem?_eq_getElem hp, Option.map_some, if_neg (by omega)]
  · rw [List.getElem?_append_right (by omega), List.getElem?_append_right (by omega), mixL_at]
    congr 1; funext s
    by_cases hq : p - xs.length < m
    · rw [if_pos (by omega), if_pos hq]
    · rw [if_neg (by omega), if_neg hq]
theorem mix_slot {fs : List (Int × Int)} {l : List UInt8} {old : List (List UInt8)} {n N m : Nat} (hl : old.length = n) (ho : ∀ s ∈ old, s.length = 64 ∧ epS s ≤ N) (hN : N < 255) (hm : m ≤ n) (h64 : n ≤ 64) :
    (mixL fs (chunks l) (N + 1) m old).length = n ∧ (∀ s ∈ mixL fs (chunks l) (N + 1) m old, s.length = 64 ∧ epS s ≤ N + 1) ∧ (mixL fs (chunks l) (N + 1) m old = slotL n (N + 1) l ∨ ∀ ep, tagd (mixL fs (chunks l) (N + 1) m old) ep → tagd old ep) := by
  have hc : ∀ j, ((chunks l).getD j []).length ≤ 43 := fun j => by
    rw [List.getD_eq_getElem?_getD]
    cases h : (chunks l)[j]? with
    | none => simp
    | some x => exact chunks_mem (List.mem_of_getElem? h)
  have hmx : ∀ j s, old[j]? = some s → (mixS (fateF fs j) (putX (chunks l) (N + 1) j) s).length = 64 ∧ (epS (mixS (fateF fs j) (putX (chunks l) (N + 1) j) s) = N + 1 ∨ (epS (mixS (fateF fs j) (putX (chunks l) (N + 1) j) s) = epS s ∧ nuS (mixS (fateF fs j) (putX (chunks l) (N + 1) j) s) = nuS s)) := fun j s hs => by
    obtain ⟨a1, a2⟩ := ho s (List.mem_of_getElem? hs)
    have fr := fateF_rng fs j
    exact ⟨mixS_len put_lenc a1, mix_tag (hc j) a1 (by omega) (by omega) (by omega)⟩
  have hlen : (mixL fs (chunks l) (N + 1) m old).length = n := by simp [mixL, hl]
  refine ⟨hlen, fun s hs => ?_, ?_⟩
  · obtain ⟨j, hj, rfl⟩ := List.getElem_of_mem hs
    have h1 := List.getElem?_eq_getElem hj
    rw [mixL_at] at h1
    obtain ⟨q, hq, hq2⟩ := Option.map_eq_some_iff.1 h1
    obtain ⟨a1, a2⟩ := ho q (List.mem_of_getElem? hq)
    rw [← hq2]
    by_cases hjm : j < m
    · rw [if_pos hjm]
      obtain ⟨b1, b2⟩ := hmx j q hq
      exact ⟨b1, by omega⟩
    · rw [if_neg hjm]
      exact ⟨a1, by omega⟩
  · by_cases ht : tagd (mixL fs (chunks l) (N + 1) m old) (N + 1)
    · refine .inl ?_
      apply List.ext_getElem?
      intro j
      by_cases hj : j < n
      · have hj' : j < old.length := by omega
        have ho1 := List.getElem?_eq_getElem hj'
        have h1 : (mixL fs (chunks l) (N + 1) m old)[j]? = some (if j < m then mixS (fateF fs j) (putX (chunks l) (N + 1) j) old[j] else old[j]) := by rw [mixL_at, ho1]; rfl
        obtain ⟨t1, t2⟩ := ht j _ h1
        obtain ⟨a1, a2⟩ := ho _ (List.mem_of_getElem? ho1)
        have hs : (slotL n (N + 1) l)[j]? = some (putX (chunks l) (N + 1) j) := by
          unfold slotL; rw [List.getElem?_map, List.getElem?_range' hj]; simp
        rw [h1, hs]
        by_cases hjm : j < m
        · rw [if_pos hjm] at t1 t2 ⊢
          have fr := fateF_rng fs j
          exact congrArg some (torn_tag (hc j) a1 (by omega) (by omega) (by omega) (fun k => by omega) t1 t2)
        · rw [if_neg hjm] at t1
          omega
      · rw [List.getElem?_eq_none (by omega), List.getElem?_eq_none (by simp [slotL]; omega)]
    · refine .inr fun ep hte j s hs => ?_
      have hne : ¬ ep = N + 1 := fun e => ht (e ▸ hte)
      have h1 : (mixL fs (chunks l) (N + 1) m old)[j]? = some (if j < m then mixS (fateF fs j) (putX (chunks l) (N + 1) j) s else s) := by rw [mixL_at, hs]; rfl
      obtain ⟨t1, t2⟩ := hte j _ h1
      by_cases hjm : j < m
      · rw [if_pos hjm] at t1 t2
        rcases (hmx j s hs).2 with b | ⟨b, c⟩
        · omega
        · exact ⟨b.symm.trans t1, c.symm.trans t2⟩
      · rw [if_neg hjm] at t1 t2
        exact ⟨t1, t2⟩
def SSt (n i : Nat) (sc : List (List UInt8)) (E : Nat) (T : List UInt8) (L : Int) : Prop := ∃ xs ys, sc = xs ++ ys ∧ SInv n i xs ys E T L
section
variable {n i E : Nat} {sc : List (List UInt8)} {T l : List UInt8} {L : Int}
theorem SSt.len (h : SSt n i sc E T L) : sc.length = 2 * n := by
  obtain ⟨xs, ys, rfl, h⟩ := h
  rw [List.length_append, h.lx, h.ly]; omega
theorem zero_tag {z : List UInt8} {k : Nat} (h : z ∈ List.replicate k (List.replicate 64 (0 : UInt8))) : z.length = 64 ∧ epS z = 0 := by
  rw [List.eq_of_mem_replicate h]; exact ⟨by simp, by decide⟩
theorem SSt.zero (n0 : 0 < n) (i : Nat) : SSt n i (List.replicate (2 * n) (List.replicate 64 (0 : UInt8))) 0 [] (-1) := by
  refine ⟨List.replicate n (List.replicate 64 0), List.replicate n (List.replicate 64 0), ?_, by simp, by simp, fun s hs => ?_, .inl ⟨rfl, rfl, rfl, ?_, ?_⟩⟩
  · rw [List.replicate_append_replicate]; congr 1; omega
  · have : s.length = 64 ∧ epS s = 0 := by
      rcases List.mem_append.1 hs with hs | hs
      · exact zero_tag hs
      · exact zero_tag hs
    exact ⟨this.1, by omega⟩
  · intro ep h0 ht
    have := tagd_lt (N := 0) (by simpa using n0) (fun s hs => by rw [(zero_tag hs).2]; exact Nat.le_refl _) ht
    omega
  · intro ep h0 ht
    have := tagd_lt (N := 0) (by simpa using n0) (fun s hs => by rw [(zero_tag hs).2]; exact Nat.le_refl _) ht
    omega
theorem SSt.wr (h : SSt n i sc E T L) {N : Nat} (hN : N ≤ i) (hall : ∀ s ∈ sc, epS s ≤ N) (n0 : 0 < n) (hi : i < 255) (hl : l.length ≤ 43 * n) :
    SSt n (i + 1) (([] ++ putsW (0 + slotA L (n : Int)) (chunks l) (N + 1) 0 n).foldl GDisk.put sc) (N + 1) l (slotN L) := by
  obtain ⟨xs, ys, rfl, h⟩ := h
  have lx := h.lx
  have ly := h.ly
  by_cases h0 : L = 0
  · have e1 := put_range (a := n) (c := chunks l) (e := N + 1) n 0 (xs ++ ys) (by simp; omega)
    have e2 : List.take (n + 0) (xs ++ ys) = xs := List.take_left' lx
    rw [slotA, if_pos h0, slotN, if_pos h0, List.nil_append, Int.zero_add, e1, e2, List.drop_of_length_le (by simp; omega), List.append_nil]
    exact ⟨xs, _, rfl, h.put1 hN hall n0 hi hl⟩
  · have e1 := put_range (a := 0) (c := chunks l) (e := N + 1) n 0 (xs ++ ys) (by simp; omega)
    rw [slotA, if_neg h0, slotN, if_neg h0, List.nil_append, Int.zero_add]
    refine ⟨slotL n (N + 1) l, ys, ?_, h.put0 hN hall n0 hi hl⟩
    refine e1.trans ?_
    rw [Nat.zero_add, Nat.add_zero, List.take_zero, List.nil_append, Nat.zero_add, List.drop_left' lx]; rfl
theorem SSt.torn (h : SSt n i sc E T L) {N m : Nat} (hN : N ≤ i) (hall : ∀ s ∈ sc, epS s ≤ N) (n0 : 0 < n) (n1 : n ≤ 64) (hi : i < 255) (hl : l.length ≤ 43 * n) (hm : m ≤ n) (fs : List (Int × Int)) :
    ∃ E2 T2 L2, SSt n (i + 1) (crashN fs ([] ++ putsW (0 + slotA L (n : Int)) (chunks l) (N + 1) 0 m) sc ([] ++ putsW (0 + slotA L (n : Int)) (chunks l) (N + 1) 0 m).length).1 E2 T2 L2 ∧ ((E2 = E ∧ T2 = T) ∨ (¬ E2 = 0 ∧ T2 = l ∧ E2 = N + 1)) := by
  obtain ⟨xs, ys, rfl, h⟩ := h
  have lx := h.lx
  have ly := h.ly
  by_cases h0 : L = 0
  · have e1 := crash_s1 (fs := fs) (c := chunks l) (xs := xs) (ys := ys) (e := N + 1) (m := m) (by omega)
    rw [slotA, if_pos h0, List.nil_append, Int.zero_add, ← lx, e1, lx]
    obtain ⟨g1, g2, g3⟩ := mix_slot (fs := fs) (l := l) (old := ys) (n := n) (N := N) (m := m) ly (fun s hs => ⟨(h.all s (List.mem_append_right _ hs)).1, hall s (List.mem_append_right _ hs)⟩) (by omega) hm n1
    rcases g3 with g3 | g3
    · rw [g3]
      exact ⟨_, _, _, ⟨xs, _, rfl, h.put1 hN hall n0 hi hl⟩, .inr ⟨by omega, rfl, rfl⟩⟩
    · refine ⟨E, T, L, ⟨xs, _, rfl, lx, g1, fun s hs => ?_, ?_⟩, .inl ⟨rfl, rfl⟩⟩
      · rcases List.mem_append.1 hs with hs | hs
        · obtain ⟨a1, a2⟩ := h.all s (List.mem_append_left _ hs)
          exact ⟨a1, by omega⟩
        · obtain ⟨a1, a2⟩ := g2 s hs
          exact ⟨a1, by omega⟩
      · rcases h.how with ⟨k1, _⟩ | ⟨k1, k2, k3, k4, k5, k6⟩ | ⟨k1, _⟩
        · omega
        · exact .inr (.inl ⟨k1, k2, by omega, k4, k5, fun ep ht => k6 ep (g3 ep ht)⟩)
        · omega
  · have e1 := crash_s0 (fs := fs) (c := chunks l) (xs := xs) (ys := ys) (e := N + 1) (m := m) (by omega)
    rw [slotA, if_neg h0, List.nil_append]
    have e2 : (crashN fs (putsW ((0 : Int) + 0) (chunks l) (N + 1) 0 m) (xs ++ ys) (putsW ((0 : Int) + 0) (chunks l) (N + 1) 0 m).length).1 = mixL fs (chunks l) (N + 1) m xs ++ ys := e1
    rw [e2]
    obtain ⟨g1, g2, g3⟩ := mix_slot (fs := fs) (l := l) (old := xs) (n := n) (N := N) (m := m) lx (fun s hs => ⟨(h.all s (List.mem_append_left _ hs)).1, hall s (List.mem_append_left _ hs)⟩) (by omega) hm n1
    rcases g3 with g3 | g3
    · rw [g3]
      exact ⟨_, _, _, ⟨_, ys, rfl, h.put0 hN hall n0 hi hl⟩, .inr ⟨by omega, rfl, rfl⟩⟩
    · refine ⟨E, T, L, ⟨_, ys, rfl, g1, ly, fun s hs => ?_, ?_⟩, .inl ⟨rfl, rfl⟩⟩
      · rcases List.mem_append.1 hs with hs | hs
        · obtain ⟨a1, a2⟩ := g2 s hs
          exact ⟨a1, by omega⟩
        · obtain ⟨a1, a2⟩ := h.all s (List.mem_append_right _ hs)
          exact ⟨a1, by omega⟩
      · rcases h.how with ⟨k1, k2, k3, k4, k5⟩ | ⟨k1, _⟩ | ⟨k1, k2, k3, k4, k5, k6⟩
        · exact .inl ⟨k1, k2, k3, fun ep he ht => k4 ep he (g3 ep ht), k5⟩
        · exact absurd k1 h0
        · exact .inr (.inr ⟨k1, k2, by omega, k4, k5, fun ep ht => k6 ep (g3 ep ht)⟩)
end
theorem puts_big {a : Int} {c : List (List UInt8)} {e : Nat} (hc : ∀ x ∈ c, x.length ≤ 43) : ∀ (f i : Nat) (d : GDisk), (f : Int) + 1 < d.fail → (∀ j : Nat, i ≤ j → j < i + f → d.has (a + (j : Int))) →
    ∃ f', putsGo a c e f i d = (0, ⟨(d.opn ++ putsW a c e i f).foldl GDisk.put d.secs, [], f', d.reads⟩)
  | 0, i, d, hf, _ => by
    obtain ⟨e1, e2⟩ := GDisk.flush_ok (d := d) (by omega)
    exact ⟨tickF d.fail, by rw [putsGo, e1, e2]; simp [putsW]⟩
  | f + 1, i, d, hf, ha => by
    obtain ⟨e1, e2⟩ := GDisk.write_ok (d := d) (a := a + (i : Int)) (l := putX c e i) ⟨ha i (Nat.le_refl _) (by omega), putX_len hc e i⟩ (by omega)
    have ht : tickF d.fail = d.fail - 1 := if_neg (by omega)
    obtain ⟨f', h⟩ := puts_big hc f (i + 1) ⟨d.secs, d.opn ++ [(a + (i : Int), putX c e i)], tickF d.fail, d.reads⟩ (by show (f : Int) + 1 < tickF d.fail; omega) (fun j h1 h2 => ha j (by omega) (by omega))
    refine ⟨f', ?_⟩
    rw [putsGo, if_pos e1, e2, h]
    simp [putsW, List.range'_succ]
end Go.Proofs.YtnndkgmcjbnfbaaGreatDoor
