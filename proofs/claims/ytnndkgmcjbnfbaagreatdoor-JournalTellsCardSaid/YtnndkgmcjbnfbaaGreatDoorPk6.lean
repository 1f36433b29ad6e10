/- Jn3, Jn4, Jn5, Jn6, Jn7, Jl1, Jn8, Args0, SlArgs: one behind the other. -/
import Derived.Test.YtnndkgmcjbnfbaaGreatDoorPk5
namespace Go.Proofs.YtnndkgmcjbnfbaaGreatDoor
open Go.RowKit
set_option linter.unusedVariables false
set_option linter.unusedSimpArgs false
set_option maxRecDepth 100000 in
set_option maxHeartbeats 4000000 in
theorem dReads_b {b : Nat} {r : Int} {s1 s2 s3 : Value} {w : World} (hb : w.heap[b]? = some (.cells #[s1, s2, s3, .int .i64 r] 52 (0, 0))) : Calls Tryz.prog 15 #[.pointer (some ⟨b, 0, none⟩)] w fun e w' => e = .returned (.int .i64 r) ∧ Adds w w' := by
  have K : Keeps (fun _ => False) w w := Keeps.refl _ w
  refine Calls.start Tryz.func15 rfl (by kernel_rfl) ?_
  refine WC.seq ?_
  refine WC.region ?_
  refine WL.op (d := 2) (.int .i64 0) (k := ?_)
  refine WL.nil ?_
  refine WX.seqN ?_
  refine WC.seq ?_
  refine WC.seq ?_
  refine WC.region ?_
  refine WL.op (d := 3) (.pointer (some ⟨b, 0, none⟩)) (k := ?_)
  refine WL.op (d := 4) (.bool false) (k := ?_)
  refine WL.nil ?_
  refine WX.seqN ?_
  refine WC.condF (k := ?_)
  refine WC.skip ?_
  refine WX.seqN ?_
  refine WC.seq ?_
  refine WC.region ?_
  refine WL.op (d := 5) (.pointer (some ⟨b, 0, none⟩)) (k := ?_)
  refine WL.op (d := 6) (.pointer (some ⟨b, 0, none⟩)) (k := ?_)
  refine WL.op (d := 7) (.pointer (some ⟨b, 3, none⟩)) (k := ?_)
  refine WL.load (v := .int .i64 r) (ld1 (T := 3) (i := 3) hb) (k := ?_)
  refine WL.op (d := 2) (.int .i64 r) (k := ?_)
  refine WL.nil ?_
  refine WX.seqN ?_
  refine WC.ret ?_
  refine WX.ret (rs := [.tmp 2]) [.int .i64 r] (.int .i64 r) ⟨(by kernel_rfl), trivial⟩ (k := ?_)
  exact ⟨rfl, K⟩
theorem dReads_fp {S : Nat → Prop} {b : Nat} {d : GDisk} {w : World} (hd : DiskAt S b d w) : Calls Tryz.prog 15 #[.pointer (some ⟨b, 0, none⟩)] w fun e w' => e = .returned (.int .i64 d.reads) ∧ Adds w w' := by
  obtain ⟨A1, c1, A2, c2, hb, h1, h2, hS, ho⟩ := hd
  exact dReads_b hb
set_option maxRecDepth 100000 in
set_option maxHeartbeats 4000000 in
theorem wlNew_nil1 {at_ n : Int} (z1 : 0 ≤ at_ ∧ at_ ≤ 1024) (z2 : -1024 ≤ n ∧ n ≤ 1024) (h : n < 1 ∨ 0 < at_) (w : World) : Calls Tryz.prog 35 #[.pointer none, .int .i64 at_, .int .i64 n] w fun e w' => e = .returned (.pointer none) ∧ Adds w w' := by
  have K : Keeps (fun _ => False) w w := Keeps.refl _ w
  refine Calls.start Tryz.func35 rfl (by kernel_rfl) ?_
  refine WC.seq ?_
  refine WC.region ?_
  refine WL.op (d := 6) (.pointer none) (k := ?_)
  refine WL.nil ?_
  refine WX.seqN ?_
  refine WC.seq ?_
  refine WC.seq ?_
  refine WC.region ?_
  refine WL.op (d := 7) (.int .i64 at_) (k := ?_)
  refine WL.op (d := 8) (.bool (decide (at_ < 0))) (k := ?_)
  refine WL.op (d := 9) (.bool (decide (at_ < 0))) (k := ?_)
  refine bsplit (decide (at_ < 0)) (fun h1 => ?_) (fun h1 => ?_)
  · have ph1 := of_decide_eq_true h1
    refine WL.rw (t := 9) (v := .bool true) (congrArg Value.bool h1) (k := ?_)
    refine WL.skip (d := 10) (k := ?_)
    refine WL.skip (d := 11) (k := ?_)
    refine WL.op (d := 12) (.bool true) (k := ?_)
    refine WL.op (d := 13) (.bool true) (k := ?_)
    refine WL.skip (d := 14) (k := ?_)
    refine WL.skip (d := 15) (k := ?_)
    refine WL.skip (d := 16) (k := ?_)
    refine WL.skip (d := 17) (k := ?_)
    refine WL.skip (d := 18) (k := ?_)
    refine WL.skip (d := 19) (k := ?_)
    refine WL.op (d := 20) (.bool true) (k := ?_)
    refine WL.nil ?_
    refine WX.seqN ?_
    refine WC.condT (k := ?_)
    refine WC.seq ?_
    refine WC.region ?_
    refine WL.op (d := 6) (.pointer none) (k := ?_)
    refine WL.nil ?_
    refine WX.seqN ?_
    refine WC.ret ?_
    refine WX.seqR ?_
    refine WX.ret (rs := [.tmp 6]) [.pointer none] (.pointer none) ⟨(by kernel_rfl), trivial⟩ (k := ?_)
    exact ⟨rfl, K⟩
  · have ph1 := of_decide_eq_false h1
    refine WL.rw (t := 9) (v := .bool false) (congrArg Value.bool h1) (k := ?_)
    refine WL.op (d := 10) (.int .i64 n) (k := ?_)
    refine WL.op (d := 11) (.bool (decide (n < 1))) (k := ?_)
    refine WL.op (d := 12) (.bool (decide (n < 1))) (k := ?_)
    refine WL.op (d := 13) (.bool (decide (n < 1))) (k := ?_)
    refine bsplit (decide (n < 1)) (fun h2 => ?_) (fun h2 => ?_)
    · have ph2 := of_decide_eq_true h2
      refine WL.rw (t := 13) (v := .bool true) (congrArg Value.bool h2) (k := ?_)
      refine WL.skip (d := 14) (k := ?_)
      refine WL.skip (d := 15) (k := ?_)
      refine WL.skip (d := 16) (k := ?_)
      refine WL.skip (d := 17) (k := ?_)
      refine WL.skip (d := 18) (k := ?_)
      refine WL.skip (d := 19) (k := ?_)
      refine WL.op (d := 20) (.bool true) (k := ?_)
      refine WL.nil ?_
      refine WX.seqN ?_
      refine WC.condT (k := ?_)
      refine WC.seq ?_
      refine WC.region ?_
      refine WL.op (d := 6) (.pointer none) (k := ?_)
      refine WL.nil ?_
      refine WX.seqN ?_
      refine WC.ret ?_
      refine WX.seqR ?_
      refine WX.ret (rs := [.tmp 6]) [.pointer none] (.pointer none) ⟨(by kernel_rfl), trivial⟩ (k := ?_)
      exact ⟨rfl, K⟩
    · have ph2 := of_decide_eq_false h2
      refine WL.rw (t := 13) (v := .bool false) (congrArg Value.bool h2) (k := ?_)
      refine WL.op (d := 14) (.int .i64 at_) (k := ?_)
      refine WL.op (d := 15) (.pointer none) (k := ?_)
      refine WL.callG (d := 16) (f := 36) (args := #[.pointer none]) (dLen_nil w) (k := fun e_ w3 h_ => ⟨.int .i64 0, h_.1, ?_⟩)
      have k4 := h_.2; clear h_
      replace K := K.trans (k4.any _)
      refine WL.op (d := 17) (.int .i64 n) (k := ?_)
      refine WL.opE (d := 18) (.int .i64 (IntKind.i64.wrap (0 - n))) (v := .int .i64 (0 - n)) (congrArg (Value.int .i64) (IntWalk.i64_in _ (by omega))) (k := ?_)
      refine WL.op (d := 19) (.bool (decide (at_ > (0 - n)))) (k := ?_)
      refine WL.op (d := 20) (.bool (decide (at_ > (0 - n)))) (k := ?_)
      refine WL.nil ?_
      refine WX.seqN ?_
      refine WC.cond (b := decide (at_ > (0 - n))) (ht := fun h5 => ?_) (hf := fun h5 => ?_)
      · have ph5 := of_decide_eq_true h5
        refine WC.seq ?_
        refine WC.region ?_
        refine WL.op (d := 6) (.pointer none) (k := ?_)
        refine WL.nil ?_
        refine WX.seqN ?_
        refine WC.ret ?_
        refine WX.seqR ?_
        refine WX.ret (rs := [.tmp 6]) [.pointer none] (.pointer none) ⟨(by kernel_rfl), trivial⟩ (k := ?_)
        exact ⟨rfl, K⟩
      · have ph5 := of_decide_eq_false h5
        refine WC.skip ?_
        refine WX.seqN ?_
        refine WC.seq ?_
        refine WC.region ?_
        refine WL.op (d := 21) (.pointer none) (k := ?_)
        refine WL.op (d := 22) (.int .i64 at_) (k := ?_)
        refine WL.op (d := 23) (.int .i64 n) (k := ?_)
        refine WL.op (d := 24) (.agg #[]) (k := ?_)
        refine WL.op (d := 25) (.iface 94 (.agg #[])) (k := ?_)
        refine WL.op (d := 26) (.agg #[.pointer none, .int .i64 at_, .int .i64 n, .iface 94 (.agg #[])]) (k := ?_)
        refine WL.new (d := 27) (T := 89) #[.pointer none, .int .i64 at_, .int .i64 n, .iface 94 (.agg #[])] (k := fun b6 w7 g8 hb9 k10 => ?_)
        have z11 := Nat.le_trans K.size g8
        replace K := K.trans (k10.any _)
        refine WL.op (d := 6) (.pointer (some ⟨b6, 0, none⟩)) (k := ?_)
        refine WL.nil ?_
        refine WX.seqN ?_
        refine WC.ret ?_
        refine WX.ret (rs := [.tmp 6]) [.pointer (some ⟨b6, 0, none⟩)] (.pointer (some ⟨b6, 0, none⟩)) ⟨(by kernel_rfl), trivial⟩ (k := ?_)
        exfalso; omega
set_option maxRecDepth 100000 in
set_option maxHeartbeats 4000000 in
theorem jnMade_ok {S : Nat → Prop} {dk : Nat} {d : GDisk} {k : Int} {w : World} (hd : DiskAt S dk d w) (hc : 1 ≤ k ∧ k ≤ 64 ∧ 2 * k < (d.secs.length : Int)) : Calls Tryz.prog 22 #[.pointer (some ⟨dk, 0, none⟩), .int .i64 k] w fun e w' => ∃ jb lb sb, e = .returned (.pointer (some ⟨jb, 0, none⟩)) ∧ w.heap.size ≤ jb ∧ w.heap.size ≤ lb ∧ w.heap.size ≤ sb ∧ w'.heap[jb]? = some (.cells #[.pointer (some ⟨lb, 0, none⟩), .pointer (some ⟨sb, 0, none⟩), .bool false, .int .u64 0] 62 (0, 0)) ∧ w'.heap[lb]? = some (.cells #[.pointer (some ⟨dk, 0, none⟩), .int .i64 (2 * k), .int .i64 ((d.secs.length : Int) - 2 * k), stV none] 89 (0, 0)) ∧ w'.heap[sb]? = some (.cells #[.pointer (some ⟨dk, 0, none⟩), .int .i64 0, .int .i64 k, .bool false, .int .u64 0, .int .i64 (-1)] 81 (0, 0)) ∧ Adds w w' := by
  have K : Keeps (fun _ => False) w w := Keeps.refl _ w
  have lk0 : ∀ k, S k → S k ∨ w.heap.size ≤ k := fun k h => .inl h
  have dl_ := hd.ok.2.2.2.2.1
  obtain ⟨m1, m2, m3⟩ := hc
  refine Calls.start Tryz.func22 rfl (by kernel_rfl) ?_
  refine WC.seq ?_
  refine WC.region ?_
  refine WL.op (d := 4) (.pointer none) (k := ?_)
  refine WL.nil ?_
  refine WX.seqN ?_
  refine WC.seq ?_
  refine WC.region ?_
  refine WL.op (d := 7) (.pointer (some ⟨dk, 0, none⟩)) (k := ?_)
  refine WL.op (d := 8) (.int .i64 k) (k := ?_)
  refine bsplit (decide (0 ≤ (0 : Int) ∧ 1 ≤ k ∧ k ≤ 64 ∧ (0 : Int) ≤ ((GDisk.secs d).length : Int) - 2 * k)) (fun h1 => ?_) (fun h1 => ?_)
  · have ph1 := of_decide_eq_true h1
    refine WL.callG (d := 9) (f := 34) (args := #[.pointer (some ⟨dk, 0, none⟩), .int .i64 0, .int .i64 k]) (svNew_ok (at_ := 0) (k := k) hd (by omega) (by omega) ph1) (k := fun e_ w2 h_ => ?_)
    obtain ⟨b3, rfl, g4, hb5, k6⟩ := h_
    refine ⟨_, rfl, ?_⟩
    have z7 := Nat.le_trans K.size g4
    have n8 : ¬ S b3 := fun h => absurd (hd.lt _ h) (Nat.not_lt.2 g4)
    replace hd := hd.adds k6
    replace K := K.trans (k6.any _)
    refine WL.op (d := 5) (.pointer (some ⟨b3, 0, none⟩)) (k := ?_)
    refine WL.nil ?_
    refine WX.seqN ?_
    refine WC.seq ?_
    refine WC.region ?_
    refine WL.op (d := 10) (.pointer (some ⟨dk, 0, none⟩)) (k := ?_)
    refine WL.op (d := 11) (.int .i64 k) (k := ?_)
    refine WL.opE (d := 12) (.int .i64 (IntKind.i64.wrap (2 * k))) (v := .int .i64 (2 * k)) (congrArg (Value.int .i64) (IntWalk.i64_in _ (by omega))) (k := ?_)
    refine WL.op (d := 13) (.pointer (some ⟨dk, 0, none⟩)) (k := ?_)
    refine WL.callG (d := 14) (f := 36) (args := #[.pointer (some ⟨dk, 0, none⟩)]) (dLen_d hd) (k := fun e_ w9 h_ => ⟨.int .i64 ((GDisk.secs d).length : Int), h_.1, ?_⟩)
    have k10 := h_.2; clear h_
    replace hd := hd.adds k10
    replace hb5 := k10.heap hb5 id
    replace K := K.trans (k10.any _)
    refine WL.op (d := 15) (.int .i64 k) (k := ?_)
    refine WL.opE (d := 16) (.int .i64 (IntKind.i64.wrap (2 * k))) (v := .int .i64 (2 * k)) (congrArg (Value.int .i64) (IntWalk.i64_in _ (by omega))) (k := ?_)
    refine WL.opE (d := 17) (.int .i64 (IntKind.i64.wrap (((GDisk.secs d).length : Int) - (2 * k)))) (v := .int .i64 (((GDisk.secs d).length : Int) - (2 * k))) (congrArg (Value.int .i64) (IntWalk.i64_in _ (by omega))) (k := ?_)
    refine bsplit (decide (0 ≤ (2 * k) ∧ 1 ≤ (((GDisk.secs d).length : Int) - (2 * k)) ∧ (2 * k) ≤ ((GDisk.secs d).length : Int) - (((GDisk.secs d).length : Int) - (2 * k)))) (fun h11 => ?_) (fun h11 => ?_)
    · have ph11 := of_decide_eq_true h11
      refine WL.callG (d := 18) (f := 35) (args := #[.pointer (some ⟨dk, 0, none⟩), .int .i64 (2 * k), .int .i64 (((GDisk.secs d).length : Int) - (2 * k))]) (wlNew_ok (at_ := 2 * k) (n := ((GDisk.secs d).length : Int) - (2 * k)) hd (by omega) (by omega) ph11) (k := fun e_ w12 h_ => ?_)
      obtain ⟨b13, rfl, g14, hb15, k16⟩ := h_
      refine ⟨_, rfl, ?_⟩
      have z17 := Nat.le_trans K.size g14
      have n18 : ¬ S b13 := fun h => absurd (hd.lt _ h) (Nat.not_lt.2 g14)
      have n19 : b3 ≠ b13 := Nat.ne_of_lt (Nat.lt_of_lt_of_le (lt_of_heap hb5) g14)
      replace hd := hd.adds k16
      replace hb5 := k16.heap hb5 id
      replace K := K.trans (k16.any _)
      refine WL.op (d := 6) (.pointer (some ⟨b13, 0, none⟩)) (k := ?_)
      refine WL.nil ?_
      refine WX.seqN ?_
      refine WC.seq ?_
      refine WC.seq ?_
      refine WC.region ?_
      refine WL.op (d := 19) (.pointer (some ⟨b3, 0, none⟩)) (k := ?_)
      refine WL.op (d := 20) (.bool false) (k := ?_)
      refine WL.op (d := 21) (.bool false) (k := ?_)
      refine WL.op (d := 22) (.pointer (some ⟨b13, 0, none⟩)) (k := ?_)
      refine WL.op (d := 23) (.bool false) (k := ?_)
      refine WL.op (d := 24) (.bool false) (k := ?_)
      refine WL.nil ?_
      refine WX.seqN ?_
      refine WC.condF (k := ?_)
      refine WC.skip ?_
      refine WX.seqN ?_
      refine WC.seq ?_
      refine WC.region ?_
      refine WL.op (d := 25) (.pointer (some ⟨b13, 0, none⟩)) (k := ?_)
      refine WL.op (d := 26) (.agg #[.pointer (some ⟨b13, 0, none⟩)]) (k := ?_)
      refine WL.op (d := 27) (.pointer (some ⟨b3, 0, none⟩)) (k := ?_)
      refine WL.op (d := 28) (.agg #[.pointer (some ⟨b13, 0, none⟩), .pointer (some ⟨b3, 0, none⟩), .bool false, .int .u64 0]) (k := ?_)
      refine WL.new (d := 29) (T := 62) #[.pointer (some ⟨b13, 0, none⟩), .pointer (some ⟨b3, 0, none⟩), .bool false, .int .u64 0] (k := fun b20 w21 g22 hb23 k24 => ?_)
      have z25 := Nat.le_trans K.size g22
      have n26 : ¬ S b20 := fun h => absurd (hd.lt _ h) (Nat.not_lt.2 g22)
      have n27 : b3 ≠ b20 := Nat.ne_of_lt (Nat.lt_of_lt_of_le (lt_of_heap hb5) g22)
      have n28 : b13 ≠ b20 := Nat.ne_of_lt (Nat.lt_of_lt_of_le (lt_of_heap hb15) g22)
      replace hd := hd.adds k24
      replace hb5 := k24.heap hb5 id
      replace hb15 := k24.heap hb15 id
      replace K := K.trans (k24.any _)
      refine WL.op (d := 4) (.pointer (some ⟨b20, 0, none⟩)) (k := ?_)
      refine WL.nil ?_
      refine WX.seqN ?_
      refine WC.ret ?_
      refine WX.ret (rs := [.tmp 4]) [.pointer (some ⟨b20, 0, none⟩)] (.pointer (some ⟨b20, 0, none⟩)) ⟨(by kernel_rfl), trivial⟩ (k := ?_)
      exact ⟨_, _, _, rfl, z25, z17, z7, hb23, hb15, hb5, K⟩
    · have ph11 := of_decide_eq_false h11
      refine WL.callG (d := 18) (f := 35) (args := #[.pointer (some ⟨dk, 0, none⟩), .int .i64 (2 * k), .int .i64 (((GDisk.secs d).length : Int) - (2 * k))]) (wlNew_no (at_ := 2 * k) (n := ((GDisk.secs d).length : Int) - (2 * k)) hd (by omega) (by omega) ph11) (k := fun e_ w29 h_ => ⟨.pointer none, h_.1, ?_⟩)
      have k30 := h_.2; clear h_
      replace hd := hd.adds k30
      replace hb5 := k30.heap hb5 id
      replace K := K.trans (k30.any _)
      refine WL.op (d := 6) (.pointer none) (k := ?_)
      refine WL.nil ?_
      refine WX.seqN ?_
      refine WC.seq ?_
      refine WC.seq ?_
      refine WC.region ?_
      refine WL.op (d := 19) (.pointer (some ⟨b3, 0, none⟩)) (k := ?_)
      refine WL.op (d := 20) (.bool false) (k := ?_)
      refine WL.op (d := 21) (.bool false) (k := ?_)
      refine WL.op (d := 22) (.pointer none) (k := ?_)
      refine WL.op (d := 23) (.bool true) (k := ?_)
      refine WL.op (d := 24) (.bool true) (k := ?_)
      refine WL.nil ?_
      refine WX.seqN ?_
      refine WC.condT (k := ?_)
      refine WC.seq ?_
      refine WC.region ?_
      refine WL.op (d := 4) (.pointer none) (k := ?_)
      refine WL.nil ?_
      refine WX.seqN ?_
      refine WC.ret ?_
      refine WX.seqR ?_
      refine WX.ret (rs := [.tmp 4]) [.pointer none] (.pointer none) ⟨(by kernel_rfl), trivial⟩ (k := ?_)
      exfalso; omega
  · have ph1 := of_decide_eq_false h1
    refine WL.callG (d := 9) (f := 34) (args := #[.pointer (some ⟨dk, 0, none⟩), .int .i64 0, .int .i64 k]) (svNew_no (at_ := 0) (k := k) hd (by omega) (by omega) ph1) (k := fun e_ w31 h_ => ⟨.pointer none, h_.1, ?_⟩)
    have k32 := h_.2; clear h_
    replace hd := hd.adds k32
    replace K := K.trans (k32.any _)
    refine WL.op (d := 5) (.pointer none) (k := ?_)
    refine WL.nil ?_
    refine WX.seqN ?_
    refine WC.seq ?_
    refine WC.region ?_
    refine WL.op (d := 10) (.pointer (some ⟨dk, 0, none⟩)) (k := ?_)
    refine WL.op (d := 11) (.int .i64 k) (k := ?_)
    refine WL.opE (d := 12) (.int .i64 (IntKind.i64.wrap (2 * k))) (v := .int .i64 (2 * k)) (congrArg (Value.int .i64) (IntWalk.i64_in _ (by omega))) (k := ?_)
    refine WL.op (d := 13) (.pointer (some ⟨dk, 0, none⟩)) (k := ?_)
    refine WL.callG (d := 14) (f := 36) (args := #[.pointer (some ⟨dk, 0, none⟩)]) (dLen_d hd) (k := fun e_ w33 h_ => ⟨.int .i64 ((GDisk.secs d).length : Int), h_.1, ?_⟩)
    have k34 := h_.2; clear h_
    replace hd := hd.adds k34
    replace K := K.trans (k34.any _)
    refine WL.op (d := 15) (.int .i64 k) (k := ?_)
    refine WL.opE (d := 16) (.int .i64 (IntKind.i64.wrap (2 * k))) (v := .int .i64 (2 * k)) (congrArg (Value.int .i64) (IntWalk.i64_in _ (by omega))) (k := ?_)
    refine WL.opE (d := 17) (.int .i64 (IntKind.i64.wrap (((GDisk.secs d).length : Int) - (2 * k)))) (v := .int .i64 (((GDisk.secs d).length : Int) - (2 * k))) (congrArg (Value.int .i64) (IntWalk.i64_in _ (by omega))) (k := ?_)
    refine bsplit (decide (0 ≤ (2 * k) ∧ 1 ≤ (((GDisk.secs d).length : Int) - (2 * k)) ∧ (2 * k) ≤ ((GDisk.secs d).length : Int) - (((GDisk.secs d).length : Int) - (2 * k)))) (fun h35 => ?_) (fun h35 => ?_)
    · have ph35 := of_decide_eq_true h35
      refine WL.callG (d := 18) (f := 35) (args := #[.pointer (some ⟨dk, 0, none⟩), .int .i64 (2 * k), .int .i64 (((GDisk.secs d).length : Int) - (2 * k))]) (wlNew_ok (at_ := 2 * k) (n := ((GDisk.secs d).length : Int) - (2 * k)) hd (by omega) (by omega) ph35) (k := fun e_ w36 h_ => ?_)
      obtain ⟨b37, rfl, g38, hb39, k40⟩ := h_
      refine ⟨_, rfl, ?_⟩
      have z41 := Nat.le_trans K.size g38
      have n42 : ¬ S b37 := fun h => absurd (hd.lt _ h) (Nat.not_lt.2 g38)
      replace hd := hd.adds k40
      replace K := K.trans (k40.any _)
      refine WL.op (d := 6) (.pointer (some ⟨b37, 0, none⟩)) (k := ?_)
      refine WL.nil ?_
      refine WX.seqN ?_
      refine WC.seq ?_
      refine WC.seq ?_
      refine WC.region ?_
      refine WL.op (d := 19) (.pointer none) (k := ?_)
      refine WL.op (d := 20) (.bool true) (k := ?_)
      refine WL.op (d := 21) (.bool true) (k := ?_)
      refine WL.skip (d := 22) (k := ?_)
      refine WL.skip (d := 23) (k := ?_)
      refine WL.op (d := 24) (.bool true) (k := ?_)
      refine WL.nil ?_
      refine WX.seqN ?_
      refine WC.condT (k := ?_)
      refine WC.seq ?_
      refine WC.region ?_
      refine WL.op (d := 4) (.pointer none) (k := ?_)
      refine WL.nil ?_
      refine WX.seqN ?_
      refine WC.ret ?_
      refine WX.seqR ?_
      refine WX.ret (rs := [.tmp 4]) [.pointer none] (.pointer none) ⟨(by kernel_rfl), trivial⟩ (k := ?_)
      exfalso; omega
    · have ph35 := of_decide_eq_false h35
      refine WL.callG (d := 18) (f := 35) (args := #[.pointer (some ⟨dk, 0, none⟩), .int .i64 (2 * k), .int .i64 (((GDisk.secs d).length : Int) - (2 * k))]) (wlNew_no (at_ := 2 * k) (n := ((GDisk.secs d).length : Int) - (2 * k)) hd (by omega) (by omega) ph35) (k := fun e_ w43 h_ => ⟨.pointer none, h_.1, ?_⟩)
      have k44 := h_.2; clear h_
      replace hd := hd.adds k44
      replace K := K.trans (k44.any _)
      refine WL.op (d := 6) (.pointer none) (k := ?_)
      refine WL.nil ?_
      refine WX.seqN ?_
      refine WC.seq ?_
      refine WC.seq ?_
      refine WC.region ?_
      refine WL.op (d := 19) (.pointer none) (k := ?_)
      refine WL.op (d := 20) (.bool true) (k := ?_)
      refine WL.op (d := 21) (.bool true) (k := ?_)
      refine WL.skip (d := 22) (k := ?_)
      refine WL.skip (d := 23) (k := ?_)
      refine WL.op (d := 24) (.bool true) (k := ?_)
      refine WL.nil ?_
      refine WX.seqN ?_
      refine WC.condT (k := ?_)
      refine WC.seq ?_
      refine WC.region ?_
      refine WL.op (d := 4) (.pointer none) (k := ?_)
      refine WL.nil ?_
      refine WX.seqN ?_
      refine WC.ret ?_
      refine WX.seqR ?_
      refine WX.ret (rs := [.tmp 4]) [.pointer none] (.pointer none) ⟨(by kernel_rfl), trivial⟩ (k := ?_)
      exfalso; omega
theorem wrap_rng64 (x : Int) : -9223372036854775808 ≤ IntKind.i64.wrap x ∧ IntKind.i64.wrap x ≤ 9223372036854775807 := by
  simp only [IntKind.wrap, IntKind.bits, IntKind.signed, Bool.true_and, decide_eq_true_eq, show ((2 : Int) ^ (64 - 1)) = 9223372036854775808 from rfl, show ((2 : Int) ^ 64) = 18446744073709551616 from rfl]
  split <;> omega
set_option maxRecDepth 100000 in
set_option maxHeartbeats 4000000 in
theorem jnMade_no {S : Nat → Prop} {dk : Nat} {d : GDisk} {k : Int} {w : World} (hd : DiskAt S dk d w) (kr : -9223372036854775808 ≤ k ∧ k ≤ 9223372036854775807) (hc : ¬ (1 ≤ k ∧ k ≤ 64 ∧ 2 * k < (d.secs.length : Int))) : Calls Tryz.prog 22 #[.pointer (some ⟨dk, 0, none⟩), .int .i64 k] w fun e w' => e = .returned (.pointer none) ∧ Adds w w' := by
  have K : Keeps (fun _ => False) w w := Keeps.refl _ w
  have lk0 : ∀ k, S k → S k ∨ w.heap.size ≤ k := fun k h => .inl h
  have dl_ := hd.ok.2.2.2.2.1
  refine Calls.start Tryz.func22 rfl (by kernel_rfl) ?_
  refine WC.seq ?_
  refine WC.region ?_
  refine WL.op (d := 4) (.pointer none) (k := ?_)
  refine WL.nil ?_
  refine WX.seqN ?_
  refine WC.seq ?_
  refine WC.region ?_
  refine WL.op (d := 7) (.pointer (some ⟨dk, 0, none⟩)) (k := ?_)
  refine WL.op (d := 8) (.int .i64 k) (k := ?_)
  refine bsplit (decide (0 ≤ (0 : Int) ∧ 1 ≤ k ∧ k ≤ 64 ∧ (0 : Int) ≤ ((GDisk.secs d).length : Int) - 2 * k)) (fun h1 => ?_) (fun h1 => ?_)
  · have ph1 := of_decide_eq_true h1
    refine WL.callG (d := 9) (f := 34) (args := #[.pointer (some ⟨dk, 0, none⟩), .int .i64 0, .int .i64 k]) (svNew_ok (at_ := 0) (k := k) hd (by omega) (by omega) ph1) (k := fun e_ w2 h_ => ?_)
    obtain ⟨b3, rfl, g4, hb5, k6⟩ := h_
    refine ⟨_, rfl, ?_⟩
    have z7 := Nat.le_trans K.size g4
    have n8 : ¬ S b3 := fun h => absurd (hd.lt _ h) (Nat.not_lt.2 g4)
    replace hd := hd.adds k6
    replace K := K.trans (k6.any _)
    refine WL.op (d := 5) (.pointer (some ⟨b3, 0, none⟩)) (k := ?_)
    refine WL.nil ?_
    refine WX.seqN ?_
    refine WC.seq ?_
    refine WC.region ?_
    refine WL.op (d := 10) (.pointer (some ⟨dk, 0, none⟩)) (k := ?_)
    refine WL.op (d := 11) (.int .i64 k) (k := ?_)
    refine WL.opE (d := 12) (.int .i64 (IntKind.i64.wrap (2 * k))) (v := .int .i64 (2 * k)) (congrArg (Value.int .i64) (IntWalk.i64_in _ (by omega))) (k := ?_)
    refine WL.op (d := 13) (.pointer (some ⟨dk, 0, none⟩)) (k := ?_)
    refine WL.callG (d := 14) (f := 36) (args := #[.pointer (some ⟨dk, 0, none⟩)]) (dLen_d hd) (k := fun e_ w9 h_ => ⟨.int .i64 ((GDisk.secs d).length : Int), h_.1, ?_⟩)
    have k10 := h_.2; clear h_
    replace hd := hd.adds k10
    replace hb5 := k10.heap hb5 id
    replace K := K.trans (k10.any _)
    refine WL.op (d := 15) (.int .i64 k) (k := ?_)
    refine WL.opE (d := 16) (.int .i64 (IntKind.i64.wrap (2 * k))) (v := .int .i64 (2 * k)) (congrArg (Value.int .i64) (IntWalk.i64_in _ (by omega))) (k := ?_)
    refine WL.opE (d := 17) (.int .i64 (IntKind.i64.wrap (((GDisk.secs d).length : Int) - (2 * k)))) (v := .int .i64 (((GDisk.secs d).length : Int) - (2 * k))) (congrArg (Value.int .i64) (IntWalk.i64_in _ (by omega))) (k := ?_)
    refine bsplit (decide (0 ≤ (2 * k) ∧ 1 ≤ (((GDisk.secs d).length : Int) - (2 * k)) ∧ (2 * k) ≤ ((GDisk.secs d).length : Int) - (((GDisk.secs d).length : Int) - (2 * k)))) (fun h11 => ?_) (fun h11 => ?_)
    · have ph11 := of_decide_eq_true h11
      refine WL.callG (d := 18) (f := 35) (args := #[.pointer (some ⟨dk, 0, none⟩), .int .i64 (2 * k), .int .i64 (((GDisk.secs d).length : Int) - (2 * k))]) (wlNew_ok (at_ := 2 * k) (n := ((GDisk.secs d).length : Int) - (2 * k)) hd (by omega) (by omega) ph11) (k := fun e_ w12 h_ => ?_)
      obtain ⟨b13, rfl, g14, hb15, k16⟩ := h_
      refine ⟨_, rfl, ?_⟩
      have z17 := Nat.le_trans K.size g14
      have n18 : ¬ S b13 := fun h => absurd (hd.lt _ h) (Nat.not_lt.2 g14)
      have n19 : b3 ≠ b13 := Nat.ne_of_lt (Nat.lt_of_lt_of_le (lt_of_heap hb5) g14)
      replace hd := hd.adds k16
      replace hb5 := k16.heap hb5 id
      replace K := K.trans (k16.any _)
      refine WL.op (d := 6) (.pointer (some ⟨b13, 0, none⟩)) (k := ?_)
      refine WL.nil ?_
      refine WX.seqN ?_
      refine WC.seq ?_
      refine WC.seq ?_
      refine WC.region ?_
      refine WL.op (d := 19) (.pointer (some ⟨b3, 0, none⟩)) (k := ?_)
      refine WL.op (d := 20) (.bool false) (k := ?_)
      refine WL.op (d := 21) (.bool false) (k := ?_)
      refine WL.op (d := 22) (.pointer (some ⟨b13, 0, none⟩)) (k := ?_)
      refine WL.op (d := 23) (.bool false) (k := ?_)
      refine WL.op (d := 24) (.bool false) (k := ?_)
      refine WL.nil ?_
      refine WX.seqN ?_
      refine WC.condF (k := ?_)
      refine WC.skip ?_
      refine WX.seqN ?_
      refine WC.seq ?_
      refine WC.region ?_
      refine WL.op (d := 25) (.pointer (some ⟨b13, 0, none⟩)) (k := ?_)
      refine WL.op (d := 26) (.agg #[.pointer (some ⟨b13, 0, none⟩)]) (k := ?_)
      refine WL.op (d := 27) (.pointer (some ⟨b3, 0, none⟩)) (k := ?_)
      refine WL.op (d := 28) (.agg #[.pointer (some ⟨b13, 0, none⟩), .pointer (some ⟨b3, 0, none⟩), .bool false, .int .u64 0]) (k := ?_)
      refine WL.new (d := 29) (T := 62) #[.pointer (some ⟨b13, 0, none⟩), .pointer (some ⟨b3, 0, none⟩), .bool false, .int .u64 0] (k := fun b20 w21 g22 hb23 k24 => ?_)
      have z25 := Nat.le_trans K.size g22
      have n26 : ¬ S b20 := fun h => absurd (hd.lt _ h) (Nat.not_lt.2 g22)
      have n27 : b3 ≠ b20 := Nat.ne_of_lt (Nat.lt_of_lt_of_le (lt_of_heap hb5) g22)
      have n28 : b13 ≠ b20 := Nat.ne_of_lt (Nat.lt_of_lt_of_le (lt_of_heap hb15) g22)
      replace hd := hd.adds k24
      replace hb5 := k24.heap hb5 id
      replace hb15 := k24.heap hb15 id
      replace K := K.trans (k24.any _)
      refine WL.op (d := 4) (.pointer (some ⟨b20, 0, none⟩)) (k := ?_)
      refine WL.nil ?_
      refine WX.seqN ?_
      refine WC.ret ?_
      refine WX.ret (rs := [.tmp 4]) [.pointer (some ⟨b20, 0, none⟩)] (.pointer (some ⟨b20, 0, none⟩)) ⟨(by kernel_rfl), trivial⟩ (k := ?_)
      exfalso; omega
    · have ph11 := of_decide_eq_false h11
      refine WL.callG (d := 18) (f := 35) (args := #[.pointer (some ⟨dk, 0, none⟩), .int .i64 (2 * k), .int .i64 (((GDisk.secs d).length : Int) - (2 * k))]) (wlNew_no (at_ := 2 * k) (n := ((GDisk.secs d).length : Int) - (2 * k)) hd (by omega) (by omega) ph11) (k := fun e_ w29 h_ => ⟨.pointer none, h_.1, ?_⟩)
      have k30 := h_.2; clear h_
      replace hd := hd.adds k30
      replace hb5 := k30.heap hb5 id
      replace K := K.trans (k30.any _)
      refine WL.op (d := 6) (.pointer none) (k := ?_)
      refine WL.nil ?_
      refine WX.seqN ?_
      refine WC.seq ?_
      refine WC.seq ?_
      refine WC.region ?_
      refine WL.op (d := 19) (.pointer (some ⟨b3, 0, none⟩)) (k := ?_)
      refine WL.op (d := 20) (.bool false) (k := ?_)
      refine WL.op (d := 21) (.bool false) (k := ?_)
      refine WL.op (d := 22) (.pointer none) (k := ?_)
      refine WL.op (d := 23) (.bool true) (k := ?_)
      refine WL.op (d := 24) (.bool true) (k := ?_)
      refine WL.nil ?_
      refine WX.seqN ?_
      refine WC.condT (k := ?_)
      refine WC.seq ?_
      refine WC.region ?_
      refine WL.op (d := 4) (.pointer none) (k := ?_)
      refine WL.nil ?_
      refine WX.seqN ?_
      refine WC.ret ?_
      refine WX.seqR ?_
      refine WX.ret (rs := [.tmp 4]) [.pointer none] (.pointer none) ⟨(by kernel_rfl), trivial⟩ (k := ?_)
      exact ⟨rfl, K⟩
  · have ph1 := of_decide_eq_false h1
    refine WL.callG (d := 9) (f := 34) (args := #[.pointer (some ⟨dk, 0, none⟩), .int .i64 0, .int .i64 k]) (svNew_no (at_ := 0) (k := k) hd (by omega) (by omega) ph1) (k := fun e_ w31 h_ => ⟨.pointer none, h_.1, ?_⟩)
    have k32 := h_.2; clear h_
    replace hd := hd.adds k32
    replace K := K.trans (k32.any _)
    refine WL.op (d := 5) (.pointer none) (k := ?_)
    refine WL.nil ?_
    refine WX.seqN ?_
    refine WC.seq ?_
    refine WC.region ?_
    refine WL.op (d := 10) (.pointer (some ⟨dk, 0, none⟩)) (k := ?_)
    refine WL.op (d := 11) (.int .i64 k) (k := ?_)
    refine WL.op (d := 12) (.int .i64 (IntKind.i64.wrap (2 * k))) (k := ?_)
    refine WL.op (d := 13) (.pointer (some ⟨dk, 0, none⟩)) (k := ?_)
    refine WL.callG (d := 14) (f := 36) (args := #[.pointer (some ⟨dk, 0, none⟩)]) (dLen_d hd) (k := fun e_ w33 h_ => ⟨.int .i64 ((GDisk.secs d).length : Int), h_.1, ?_⟩)
    have k34 := h_.2; clear h_
    replace hd := hd.adds k34
    replace K := K.trans (k34.any _)
    refine WL.op (d := 15) (.int .i64 k) (k := ?_)
    refine WL.op (d := 16) (.int .i64 (IntKind.i64.wrap (2 * k))) (k := ?_)
    refine WL.op (d := 17) (.int .i64 (IntKind.i64.wrap (((GDisk.secs d).length : Int) - (IntKind.i64.wrap (2 * k))))) (k := ?_)
    have wr35 := wrap_rng64 (2 * k)
    have wr36 := wrap_rng64 (((GDisk.secs d).length : Int) - (IntKind.i64.wrap (2 * k)))
    refine bsplit (decide (0 ≤ (IntKind.i64.wrap (2 * k)) ∧ 1 ≤ (IntKind.i64.wrap (((GDisk.secs d).length : Int) - (IntKind.i64.wrap (2 * k)))) ∧ (IntKind.i64.wrap (2 * k)) ≤ ((GDisk.secs d).length : Int) - (IntKind.i64.wrap (((GDisk.secs d).length : Int) - (IntKind.i64.wrap (2 * k)))))) (fun h37 => ?_) (fun h37 => ?_)
    · have ph37 := of_decide_eq_true h37
      have wr38 := wrap_rng64 (2 * k)
      have wr39 := wrap_rng64 (((GDisk.secs d).length : Int) - (IntKind.i64.wrap (2 * k)))
      refine WL.callG (d := 18) (f := 35) (args := #[.pointer (some ⟨dk, 0, none⟩), .int .i64 (IntKind.i64.wrap (2 * k)), .int .i64 (IntKind.i64.wrap (((GDisk.secs d).length : Int) - (IntKind.i64.wrap (2 * k))))]) (wlNew_ok (at_ := IntKind.i64.wrap (2 * k)) (n := IntKind.i64.wrap (((GDisk.secs d).length : Int) - (IntKind.i64.wrap (2 * k)))) hd (by omega) (by omega) ph37) (k := fun e_ w40 h_ => ?_)
      obtain ⟨b41, rfl, g42, hb43, k44⟩ := h_
      refine ⟨_, rfl, ?_⟩
      have z45 := Nat.le_trans K.size g42
      have n46 : ¬ S b41 := fun h => absurd (hd.lt _ h) (Nat.not_lt.2 g42)
      replace hd := hd.adds k44
      replace K := K.trans (k44.any _)
      refine WL.op (d := 6) (.pointer (some ⟨b41, 0, none⟩)) (k := ?_)
      refine WL.nil ?_
      refine WX.seqN ?_
      refine WC.seq ?_
      refine WC.seq ?_
      refine WC.region ?_
      refine WL.op (d := 19) (.pointer none) (k := ?_)
      refine WL.op (d := 20) (.bool true) (k := ?_)
      refine WL.op (d := 21) (.bool true) (k := ?_)
      refine WL.skip (d := 22) (k := ?_)
      refine WL.skip (d := 23) (k := ?_)
      refine WL.op (d := 24) (.bool true) (k := ?_)
      refine WL.nil ?_
      refine WX.seqN ?_
      refine WC.condT (k := ?_)
      refine WC.seq ?_
      refine WC.region ?_
      refine WL.op (d := 4) (.pointer none) (k := ?_)
      refine WL.nil ?_
      refine WX.seqN ?_
      refine WC.ret ?_
      refine WX.seqR ?_
      refine WX.ret (rs := [.tmp 4]) [.pointer none] (.pointer none) ⟨(by kernel_rfl), trivial⟩ (k := ?_)
      exact ⟨rfl, K⟩
    · have ph37 := of_decide_eq_false h37
      have wr47 := wrap_rng64 (2 * k)
      have wr48 := wrap_rng64 (((GDisk.secs d).length : Int) - (IntKind.i64.wrap (2 * k)))
      refine WL.callG (d := 18) (f := 35) (args := #[.pointer (some ⟨dk, 0, none⟩), .int .i64 (IntKind.i64.wrap (2 * k)), .int .i64 (IntKind.i64.wrap (((GDisk.secs d).length : Int) - (IntKind.i64.wrap (2 * k))))]) (wlNew_no (at_ := IntKind.i64.wrap (2 * k)) (n := IntKind.i64.wrap (((GDisk.secs d).length : Int) - (IntKind.i64.wrap (2 * k)))) hd (by omega) (by omega) ph37) (k := fun e_ w49 h_ => ⟨.pointer none, h_.1, ?_⟩)
      have k50 := h_.2; clear h_
      replace hd := hd.adds k50
      replace K := K.trans (k50.any _)
      refine WL.op (d := 6) (.pointer none) (k := ?_)
      refine WL.nil ?_
      refine WX.seqN ?_
      refine WC.seq ?_
      refine WC.seq ?_
      refine WC.region ?_
      refine WL.op (d := 19) (.pointer none) (k := ?_)
      refine WL.op (d := 20) (.bool true) (k := ?_)
      refine WL.op (d := 21) (.bool true) (k := ?_)
      refine WL.skip (d := 22) (k := ?_)
      refine WL.skip (d := 23) (k := ?_)
      refine WL.op (d := 24) (.bool true) (k := ?_)
      refine WL.nil ?_
      refine WX.seqN ?_
      refine WC.condT (k := ?_)
      refine WC.seq ?_
      refine WC.region ?_
      refine WL.op (d := 4) (.pointer none) (k := ?_)
      refine WL.nil ?_
      refine WX.seqN ?_
      refine WC.ret ?_
      refine WX.seqR ?_
      refine WX.ret (rs := [.tmp 4]) [.pointer none] (.pointer none) ⟨(by kernel_rfl), trivial⟩ (k := ?_)
      exact ⟨rfl, K⟩
set_option maxRecDepth 100000 in
set_option maxHeartbeats 4000000 in
theorem jnMade_nil {k : Int} (k1 : 1 ≤ k) (k2 : k ≤ 64) (w : World) : Calls Tryz.prog 22 #[.pointer none, .int .i64 k] w fun e w' => e = .returned (.pointer none) ∧ Adds w w' := by
  have K : Keeps (fun _ => False) w w := Keeps.refl _ w
  refine Calls.start Tryz.func22 rfl (by kernel_rfl) ?_
  refine WC.seq ?_
  refine WC.region ?_
  refine WL.op (d := 4) (.pointer none) (k := ?_)
  refine WL.nil ?_
  refine WX.seqN ?_
  refine WC.seq ?_
  refine WC.region ?_
  refine WL.op (d := 7) (.pointer none) (k := ?_)
  refine WL.op (d := 8) (.int .i64 k) (k := ?_)
  refine WL.callG (d := 9) (f := 34) (args := #[.pointer none, .int .i64 0, .int .i64 k]) (svNew_nil (at_ := 0) (k := k) (by omega) (by omega) w) (k := fun e_ w1 h_ => ⟨.pointer none, h_.1, ?_⟩)
  have k2 := h_.2; clear h_
  replace K := K.trans (k2.any _)
  refine WL.op (d := 5) (.pointer none) (k := ?_)
  refine WL.nil ?_
  refine WX.seqN ?_
  refine WC.seq ?_
  refine WC.region ?_
  refine WL.op (d := 10) (.pointer none) (k := ?_)
  refine WL.op (d := 11) (.int .i64 k) (k := ?_)
  refine WL.opE (d := 12) (.int .i64 (IntKind.i64.wrap (2 * k))) (v := .int .i64 (2 * k)) (congrArg (Value.int .i64) (IntWalk.i64_in _ (by omega))) (k := ?_)
  refine WL.op (d := 13) (.pointer none) (k := ?_)
  refine WL.callG (d := 14) (f := 36) (args := #[.pointer none]) (dLen_nil w1) (k := fun e_ w3 h_ => ⟨.int .i64 0, h_.1, ?_⟩)
  have k4 := h_.2; clear h_
  replace K := K.trans (k4.any _)
  refine WL.op (d := 15) (.int .i64 k) (k := ?_)
  refine WL.opE (d := 16) (.int .i64 (IntKind.i64.wrap (2 * k))) (v := .int .i64 (2 * k)) (congrArg (Value.int .i64) (IntWalk.i64_in _ (by omega))) (k := ?_)
  refine WL.opE (d := 17) (.int .i64 (IntKind.i64.wrap (0 - (2 * k)))) (v := .int .i64 (0 - (2 * k))) (congrArg (Value.int .i64) (IntWalk.i64_in _ (by omega))) (k := ?_)
  refine WL.callG (d := 18) (f := 35) (args := #[.pointer none, .int .i64 (2 * k), .int .i64 (0 - (2 * k))]) (wlNew_nil1 (at_ := 2 * k) (n := 0 - (2 * k)) (by omega) (by omega) (by omega) w3) (k := fun e_ w5 h_ => ⟨.pointer none, h_.1, ?_⟩)
  have k6 := h_.2; clear h_
  replace K := K.trans (k6.any _)
  refine WL.op (d := 6) (.pointer none) (k := ?_)
  refine WL.nil ?_
  refine WX.seqN ?_
  refine WC.seq ?_
  refine WC.seq ?_
  refine WC.region ?_
  refine WL.op (d := 19) (.pointer none) (k := ?_)
  refine WL.op (d := 20) (.bool true) (k := ?_)
  refine WL.op (d := 21) (.bool true) (k := ?_)
  refine WL.skip (d := 22) (k := ?_)
  refine WL.skip (d := 23) (k := ?_)
  refine WL.op (d := 24) (.bool true) (k := ?_)
  refine WL.nil ?_
  refine WX.seqN ?_
  refine WC.condT (k := ?_)
  refine WC.seq ?_
  refine WC.region ?_
  refine WL.op (d := 4) (.pointer none) (k := ?_)
  refine WL.nil ?_
  refine WX.seqN ?_
  refine WC.ret ?_
  refine WX.seqR ?_
  refine WX.ret (rs := [.tmp 4]) [.pointer none] (.pointer none) ⟨(by kernel_rfl), trivial⟩ (k := ?_)
  exact ⟨rfl, K⟩
set_option maxRecDepth 100000 in
set_option maxHeartbeats 4000000 in
theorem jnBegins_c {jb lb e : Nat} {v1 v2 v3 u0 u1 u2 u3 : Value} {w : World} (hj : w.heap[jb]? = some (.cells #[.pointer (some ⟨lb, 0, none⟩), v1, v2, v3] 62 (0, 0))) (hl : w.heap[lb]? = some (.cells #[u0, u1, u2, u3] 89 (0, 0))) (he : ¬ e = 0) : Calls Tryz.prog 25 #[.pointer (some ⟨jb, 0, none⟩), .int .u64 (e : Int)] w fun e_ w' => e_ = .returned (.tuple #[]) ∧ w'.heap[jb]? = some (.cells #[.pointer (some ⟨lb, 0, none⟩), v1, .bool true, .int .u64 (e : Int)] 62 (0, 0)) ∧ w'.heap[lb]? = some (.cells #[u0, u1, u2, stV (some (e, 0))] 89 (0, 0)) ∧ Keeps (fun i => i = jb ∨ i = lb) w w' := by
  have K : Keeps (fun i => i = jb ∨ i = lb) w w := Keeps.refl _ w
  have ne_ : jb ≠ lb := blk_ne hj hl (by decide)
  refine Calls.start Tryz.func25 rfl (by kernel_rfl) ?_
  refine WC.seq ?_
  refine WC.region ?_
  refine WL.op (d := 4) (.pointer (some ⟨jb, 0, none⟩)) (k := ?_)
  refine WL.op (d := 5) (.int .u64 ((e : Nat) : Int)) (k := ?_)
  refine WL.op (d := 6) (.pointer (some ⟨jb, 0, none⟩)) (k := ?_)
  refine WL.op (d := 7) (.pointer (some ⟨jb, 3, none⟩)) (k := ?_)
  refine WL.store (v := .int .u64 ((e : Nat) : Int)) (i := 3) (cs' := #[.pointer (some ⟨lb, 0, none⟩), v1, v2, .int .u64 ((e : Nat) : Int)]) hj (k := fun w1 hb2 k3 => ?_)
  replace hl := k3.heap hl (Ne.symm ne_)
  replace K := K.trans' k3 (fun i hi e => .inl e)
  clear hj
  refine WL.nil ?_
  refine WX.seqN ?_
  refine WC.seq ?_
  refine WC.region ?_
  refine WL.op (d := 8) (.pointer (some ⟨jb, 0, none⟩)) (k := ?_)
  refine WL.op (d := 9) (.pointer (some ⟨jb, 0, none⟩)) (k := ?_)
  refine WL.op (d := 10) (.pointer (some ⟨jb, 0, none⟩)) (k := ?_)
  refine WL.op (d := 11) (.pointer (some ⟨jb, 0, none⟩)) (k := ?_)
  refine WL.load (v := .pointer (some ⟨lb, 0, none⟩)) (ld1 (T := 57) (i := 0) hb2) (k := ?_)
  refine WL.op (d := 13) (.int .u64 ((e : Nat) : Int)) (k := ?_)
  refine WL.callG (d := 14) (f := 39) (args := #[.pointer (some ⟨lb, 0, none⟩), .int .u64 ((e : Nat) : Int)]) (wlStart_ok (e := e) hl (by omega)) (k := fun e_ w4 h_ => ?_)
  obtain ⟨rfl, hb5, k6⟩ := h_
  refine ⟨_, rfl, ?_⟩
  replace hb2 := k6.heap hb2 ne_
  replace K := K.trans' k6 (fun i hi e => .inr e)
  clear hl
  change w4.heap[lb]? = some (.cells #[u0, u1, u2, stV (some (e, 0))] 89 (0, 0)) at hb5
  refine WL.nil ?_
  refine WX.seqN ?_
  refine WC.region ?_
  refine WL.op (d := 15) (.pointer (some ⟨jb, 0, none⟩)) (k := ?_)
  refine WL.op (d := 16) (.pointer (some ⟨jb, 0, none⟩)) (k := ?_)
  refine WL.op (d := 17) (.pointer (some ⟨jb, 2, none⟩)) (k := ?_)
  refine WL.store (v := .bool true) (i := 2) (cs' := #[.pointer (some ⟨lb, 0, none⟩), v1, .bool true, .int .u64 ((e : Nat) : Int)]) hb2 (k := fun w7 hb8 k9 => ?_)
  replace hb5 := k9.heap hb5 (Ne.symm ne_)
  replace K := K.trans' k9 (fun i hi e => .inl e)
  clear hb2
  refine WL.nil ?_
  refine WX.end (rs := []) [] (.tuple #[]) trivial (k := ?_)
  exact ⟨rfl, hb8, hb5, K⟩
set_option maxRecDepth 100000 in
set_option maxHeartbeats 4000000 in
theorem jnFormat_ok {S : Nat → Prop} {dk : Nat} {d : GDisk} {k : Int} {l : List UInt8} {X : RdX} {P : Int × GDisk} {w : World} (hd : DiskAt S dk d w) (hc : 1 ≤ k ∧ k ≤ 64 ∧ 2 * k < (d.secs.length : Int)) (hX : rdF 0 k d = X) (hXb : X.bad = 0) (hRd : X.rd = true) (hP : putsGo (0 + slotA X.la k) (chunks l) (X.nw + 1) k.toNat 0 X.d = P) (hPe : P.1 = 0) (hl : l.length ≤ k * 43) (hm : X.d.opn.length + 64 < 1000000) (hnw : X.nw + 1 < 18446744073709551616) : Calls Tryz.prog 10 #[.pointer (some ⟨dk, 0, none⟩), .int .i64 k, .string ⟨l.toArray⟩] w fun e w' => ∃ jb S', e = .returned (.tuple #[.pointer (some ⟨jb, 0, none⟩), .int .i64 0]) ∧ JnAt S' dk ⟨jb, k, (d.secs.length : Int) - 2 * k, true, X.nw + 1, true, X.nw + 1, slotN X.la, some (X.nw + 1, 0), P.2⟩ w' ∧ (∀ i, S' i → S i ∨ w.heap.size ≤ i) ∧ Keeps S w w' := by
  have K : Keeps S w w := Keeps.refl _ w
  have lk0 : ∀ k, S k → S k ∨ w.heap.size ≤ k := fun k h => .inl h
  have dl_ := hd.ok.2.2.2.2.1
  obtain ⟨m1, m2, m3⟩ := hc
  have h1 : (RdX.bad X != 0) = false := (by rw [hXb]; rfl)
  have ph1 := of_bne_false h1
  refine Calls.start Tryz.func10 rfl (by kernel_rfl) ?_
  refine WC.seq ?_
  refine WC.region ?_
  refine WL.op (d := 6) (.pointer none) (k := ?_)
  refine WL.op (d := 7) (.int .i64 0) (k := ?_)
  refine WL.nil ?_
  refine WX.seqN ?_
  refine WC.seq ?_
  refine WC.region ?_
  refine WL.op (d := 13) (.pointer (some ⟨dk, 0, none⟩)) (k := ?_)
  refine WL.op (d := 14) (.int .i64 k) (k := ?_)
  refine WL.callG (d := 15) (f := 22) (args := #[.pointer (some ⟨dk, 0, none⟩), .int .i64 k]) (jnMade_ok (k := k) hd (by omega)) (k := fun e_ w2 h_ => ?_)
  obtain ⟨jb3, lb4, sb5, rfl, g6, g7, g8, hj9, hl10, hs11, k12⟩ := h_
  refine ⟨_, rfl, ?_⟩
  have z13 := Nat.le_trans K.size g6
  have n14 : ¬ S jb3 := fun h => absurd (hd.lt _ h) (Nat.not_lt.2 g6)
  have z15 := Nat.le_trans K.size g7
  have n16 : ¬ S lb4 := fun h => absurd (hd.lt _ h) (Nat.not_lt.2 g7)
  have z17 := Nat.le_trans K.size g8
  have n18 : ¬ S sb5 := fun h => absurd (hd.lt _ h) (Nat.not_lt.2 g8)
  replace hd := hd.adds k12
  replace K := K.trans (k12.any _)
  have ne19 : jb3 ≠ lb4 := blk_ne hj9 hl10 (by decide)
  have ne20 : jb3 ≠ sb5 := blk_ne hj9 hs11 (by decide)
  have ne21 : lb4 ≠ sb5 := blk_ne hl10 hs11 (by decide)
  refine WL.op (d := 8) (.pointer (some ⟨jb3, 0, none⟩)) (k := ?_)
  refine WL.nil ?_
  refine WX.seqN ?_
  refine WC.seq ?_
  refine WC.seq ?_
  refine WC.region ?_
  refine WL.op (d := 16) (.pointer (some ⟨jb3, 0, none⟩)) (k := ?_)
  refine WL.op (d := 17) (.bool false) (k := ?_)
  refine WL.nil ?_
  refine WX.seqN ?_
  refine WC.condF (k := ?_)
  refine WC.skip ?_
  refine WX.seqN ?_
  refine WC.seq ?_
  refine WC.region ?_
  refine WL.op (d := 19) (.pointer (some ⟨jb3, 0, none⟩)) (k := ?_)
  refine WL.op (d := 20) (.pointer (some ⟨jb3, 0, none⟩)) (k := ?_)
  refine WL.op (d := 21) (.pointer (some ⟨jb3, 1, none⟩)) (k := ?_)
  refine WL.load (v := .pointer (some ⟨sb5, 0, none⟩)) (ld1 (T := 60) (i := 1) hj9) (k := ?_)
  refine WL.callG (d := 23) (f := 23) (args := #[.pointer (some ⟨sb5, 0, none⟩)]) (svRead_all hX hs11 hd n18 (by omega) (by omega) (by omega) (by omega)) (k := fun e_ w22 h_ => ?_)
  obtain ⟨rfl, hb23, hd24, k25⟩ := h_
  refine ⟨_, rfl, ?_⟩
  replace K := K.trans' k25 (fun i hi e => e.elim (fun e => absurd (e ▸ hi) (Nat.not_lt.2 z17)) (fun e => (lk0 i e).elim (fun h => h) (fun h => absurd hi (Nat.not_lt.2 h))))
  replace hj9 := k25.heap hj9 (not_or.2 ⟨ne20, n14⟩)
  replace hl10 := k25.heap hl10 (not_or.2 ⟨ne21, n16⟩)
  clear hs11 hd
  refine WL.op (d := 18) (.tuple #[.agg #[.int .u64 ((RdX.e X : Nat) : Int), .string ⟨(RdX.t X).toArray⟩], .bool (decide (¬ RdX.e X = 0)), .int .i64 (RdX.bad X)]) (k := ?_)
  refine WL.op (d := 24) (.agg #[.int .u64 ((RdX.e X : Nat) : Int), .string ⟨(RdX.t X).toArray⟩]) (k := ?_)
  refine WL.op (d := 25) (.bool (decide (¬ RdX.e X = 0))) (k := ?_)
  refine WL.op (d := 26) (.int .i64 (RdX.bad X)) (k := ?_)
  refine WL.new (d := 9) (T := 55) #[.int .u64 0, .string ⟨#[]⟩] (k := fun b26 w27 g28 hb29 k30 => ?_)
  have z31 := Nat.le_trans K.size g28
  have n32 : ¬ S b26 := fun h => absurd (hd24.lt _ h) (Nat.not_lt.2 g28)
  have n33 : jb3 ≠ b26 := Nat.ne_of_lt (Nat.lt_of_lt_of_le (lt_of_heap hj9) g28)
  have n34 : lb4 ≠ b26 := Nat.ne_of_lt (Nat.lt_of_lt_of_le (lt_of_heap hl10) g28)
  have n35 : sb5 ≠ b26 := Nat.ne_of_lt (Nat.lt_of_lt_of_le (lt_of_heap hb23) g28)
  replace hd24 := hd24.adds k30
  replace hj9 := k30.heap hj9 id
  replace hl10 := k30.heap hl10 id
  replace hb23 := k30.heap hb23 id
  replace K := K.trans (k30.any _)
  refine WL.store (v := .agg #[.int .u64 ((RdX.e X : Nat) : Int), .string ⟨(RdX.t X).toArray⟩]) (i := 0) (cs' := #[.int .u64 ((RdX.e X : Nat) : Int), .string ⟨(RdX.t X).toArray⟩]) hb29 (k := fun w36 hb37 k38 => ?_)
  replace hd24 := hd24.keeps k38 (fun i hi e => n32 (e ▸ hi))
  replace hj9 := k38.heap hj9 n33
  replace hl10 := k38.heap hl10 n34
  replace hb23 := k38.heap hb23 n35
  replace K := K.trans' k38 (fun i hi e => absurd (e ▸ hi) (Nat.not_lt.2 z31))
  clear hb29
  refine WL.op (d := 10) (.bool (decide (¬ RdX.e X = 0))) (k := ?_)
  refine WL.op (d := 11) (.int .i64 (RdX.bad X)) (k := ?_)
  refine WL.nil ?_
  refine WX.seqN ?_
  refine WC.seq ?_
  refine WC.seq ?_
  refine WC.region ?_
  refine WL.op (d := 27) (.int .i64 (RdX.bad X)) (k := ?_)
  refine WL.op (d := 28) (.bool ((RdX.bad X) != 0)) (k := ?_)
  refine WL.nil ?_
  refine WX.seqN ?_
  refine WC.cond (b := (RdX.bad X) != 0) (ht := fun h39 => ?_) (hf := fun h39 => ?_)
  · have ph39 := bne_iff_ne.1 h39
    refine WC.seq ?_
    refine WC.region ?_
    refine WL.op (d := 29) (.int .i64 (RdX.bad X)) (k := ?_)
    refine WL.op (d := 6) (.pointer none) (k := ?_)
    refine WL.op (d := 7) (.int .i64 (RdX.bad X)) (k := ?_)
    refine WL.nil ?_
    refine WX.seqN ?_
    refine WC.ret ?_
    refine WX.seqR ?_
    refine WX.ret (rs := [.tmp 6, .tmp 7]) [.pointer none, .int .i64 (RdX.bad X)] (.tuple #[.pointer none, .int .i64 (RdX.bad X)]) ⟨(by kernel_rfl), (by kernel_rfl), trivial⟩ (k := ?_)
    exfalso; omega
  · have ph39 := of_bne_false h39
    refine WC.skip ?_
    refine WX.seqN ?_
    refine WC.seq ?_
    refine WC.region ?_
    refine WL.op (d := 31) (.pointer (some ⟨jb3, 0, none⟩)) (k := ?_)
    refine WL.op (d := 32) (.pointer (some ⟨jb3, 0, none⟩)) (k := ?_)
    refine WL.op (d := 33) (.pointer (some ⟨jb3, 1, none⟩)) (k := ?_)
    refine WL.load (v := .pointer (some ⟨sb5, 0, none⟩)) (ld1 (T := 60) (i := 1) hj9) (k := ?_)
    refine WL.op (d := 35) (.string ⟨(l).toArray⟩) (k := ?_)
    have hr40 := hb23
    rw [hRd] at hr40
    refine WL.callG (d := 36) (f := 24) (args := #[.pointer (some ⟨sb5, 0, none⟩), .string ⟨(l).toArray⟩]) (svWrite_ok (P := P) (la := RdX.la X) (nw := RdX.nw X) (l := l) (k := k) (by omega) (by omega) (by omega) (by omega) hr40 hd24 n18 (by omega) (by omega) (by omega) hP hPe) (k := fun e_ w41 h_ => ?_)
    obtain ⟨rfl, hb43, S42, hd44, lk45, n46, k47⟩ := h_
    refine ⟨_, rfl, ?_⟩
    have n48 : ¬ S42 jb3 := fun h => (lk45 _ h).elim n14 (fun h2 => absurd (lt_of_heap hj9) (Nat.not_lt.2 h2))
    have n49 : ¬ S42 lb4 := fun h => (lk45 _ h).elim n16 (fun h2 => absurd (lt_of_heap hl10) (Nat.not_lt.2 h2))
    have n50 : ¬ S42 b26 := fun h => (lk45 _ h).elim n32 (fun h2 => absurd (lt_of_heap hb37) (Nat.not_lt.2 h2))
    have lk51 := lk_step lk0 lk45 K
    replace K := K.trans' k47 (fun i hi e => e.elim (fun e => absurd (e ▸ hi) (Nat.not_lt.2 z17)) (fun e => (lk0 i e).elim (fun h => h) (fun h => absurd hi (Nat.not_lt.2 h))))
    replace hj9 := k47.heap hj9 (not_or.2 ⟨ne20, n14⟩)
    replace hl10 := k47.heap hl10 (not_or.2 ⟨ne21, n16⟩)
    replace hb37 := k47.heap hb37 (not_or.2 ⟨Ne.symm n35, n32⟩)
    clear hb23 hd24
    refine WL.op (d := 30) (.tuple #[.int .u64 ((RdX.nw X + 1 : Nat) : Int), .int .i64 0]) (k := ?_)
    refine WL.op (d := 37) (.int .u64 ((RdX.nw X + 1 : Nat) : Int)) (k := ?_)
    refine WL.op (d := 38) (.int .i64 0) (k := ?_)
    refine WL.op (d := 12) (.int .u64 ((RdX.nw X + 1 : Nat) : Int)) (k := ?_)
    refine WL.op (d := 11) (.int .i64 0) (k := ?_)
    refine WL.nil ?_
    refine WX.seqN ?_
    refine WC.seq ?_
    refine WC.seq ?_
    refine WC.region ?_
    refine WL.op (d := 39) (.int .i64 0) (k := ?_)
    refine WL.op (d := 40) (.bool false) (k := ?_)
    refine WL.nil ?_
    refine WX.seqN ?_
    refine WC.condF (k := ?_)
    refine WC.skip ?_
    refine WX.seqN ?_
    refine WC.seq ?_
    refine WC.region ?_
    refine WL.op (d := 42) (.pointer (some ⟨jb3, 0, none⟩)) (k := ?_)
    refine WL.op (d := 43) (.int .u64 ((RdX.nw X + 1 : Nat) : Int)) (k := ?_)
    refine WL.callG (d := 44) (f := 25) (args := #[.pointer (some ⟨jb3, 0, none⟩), .int .u64 ((RdX.nw X + 1 : Nat) : Int)]) (jnBegins_c (e := RdX.nw X + 1) hj9 hl10 (by omega)) (k := fun e_ w52 h_ => ?_)
    obtain ⟨rfl, hj53, hl54, k55⟩ := h_
    refine ⟨_, rfl, ?_⟩
    replace K := K.trans' k55 (fun i hi e => e.elim (fun e => absurd (e ▸ hi) (Nat.not_lt.2 z13)) (fun e => absurd (e ▸ hi) (Nat.not_lt.2 z15)))
    replace hd44 := hd44.keeps k55 (fun i hi h => h.elim (fun e => n48 (e ▸ hi)) (fun h => n49 (h ▸ hi)))
    replace hb43 := k55.heap hb43 (fun h => h.elim (Ne.symm ne20) (fun h => (Ne.symm ne21) h))
    replace hb37 := k55.heap hb37 (fun h => h.elim (Ne.symm n33) (fun h => (Ne.symm n34) h))
    clear hj9 hl10
    refine WL.nil ?_
    refine WX.seqN ?_
    refine WC.seq ?_
    refine WC.region ?_
    refine WL.op (d := 45) (.pointer (some ⟨jb3, 0, none⟩)) (k := ?_)
    refine WL.op (d := 6) (.pointer (some ⟨jb3, 0, none⟩)) (k := ?_)
    refine WL.op (d := 7) (.int .i64 0) (k := ?_)
    refine WL.nil ?_
    refine WX.seqN ?_
    refine WC.ret ?_
    refine WX.ret (rs := [.tmp 6, .tmp 7]) [.pointer (some ⟨jb3, 0, none⟩), .int .i64 0] (.tuple #[.pointer (some ⟨jb3, 0, none⟩), .int .i64 0]) ⟨(by kernel_rfl), (by kernel_rfl), trivial⟩ (k := ?_)
    exact ⟨_, _, rfl, ⟨_, _, _, hd44, hj53, hl54, hb43, n48, n49, n46, fun i => Iff.rfl⟩, (fun i h => h.elim (fun h => lk51 i h) (fun h => .inr (h.elim (fun e => e ▸ z13) (fun h => h.elim (fun e => e ▸ z15) (fun e => e ▸ z17))))), K⟩
set_option maxRecDepth 100000 in
set_option maxHeartbeats 4000000 in
theorem jnFormat_no {S : Nat → Prop} {dk : Nat} {d : GDisk} {k : Int} {l : List UInt8} {w : World} (hd : DiskAt S dk d w) (kr : -9223372036854775808 ≤ k ∧ k ≤ 9223372036854775807) (hc : ¬ (1 ≤ k ∧ k ≤ 64 ∧ 2 * k < (d.secs.length : Int))) : Calls Tryz.prog 10 #[.pointer (some ⟨dk, 0, none⟩), .int .i64 k, .string ⟨l.toArray⟩] w fun e w' => e = .returned (.tuple #[.pointer none, .int .i64 1]) ∧ Adds w w' := by
  have K : Keeps (fun _ => False) w w := Keeps.refl _ w
  have lk0 : ∀ k, S k → S k ∨ w.heap.size ≤ k := fun k h => .inl h
  have dl_ := hd.ok.2.2.2.2.1
  refine Calls.start Tryz.func10 rfl (by kernel_rfl) ?_
  refine WC.seq ?_
  refine WC.region ?_
  refine WL.op (d := 6) (.pointer none) (k := ?_)
  refine WL.op (d := 7) (.int .i64 0) (k := ?_)
  refine WL.nil ?_
  refine WX.seqN ?_
  refine WC.seq ?_
  refine WC.region ?_
  refine WL.op (d := 13) (.pointer (some ⟨dk, 0, none⟩)) (k := ?_)
  refine WL.op (d := 14) (.int .i64 k) (k := ?_)
  refine WL.callG (d := 15) (f := 22) (args := #[.pointer (some ⟨dk, 0, none⟩), .int .i64 k]) (jnMade_no (k := k) hd (by omega) (by omega)) (k := fun e_ w1 h_ => ⟨.pointer none, h_.1, ?_⟩)
  have k2 := h_.2; clear h_
  replace hd := hd.adds k2
  replace K := K.trans (k2.any _)
  refine WL.op (d := 8) (.pointer none) (k := ?_)
  refine WL.nil ?_
  refine WX.seqN ?_
  refine WC.seq ?_
  refine WC.seq ?_
  refine WC.region ?_
  refine WL.op (d := 16) (.pointer none) (k := ?_)
  refine WL.op (d := 17) (.bool true) (k := ?_)
  refine WL.nil ?_
  refine WX.seqN ?_
  refine WC.condT (k := ?_)
  refine WC.seq ?_
  refine WC.region ?_
  refine WL.op (d := 6) (.pointer none) (k := ?_)
  refine WL.op (d := 7) (.int .i64 1) (k := ?_)
  refine WL.nil ?_
  refine WX.seqN ?_
  refine WC.ret ?_
  refine WX.seqR ?_
  refine WX.ret (rs := [.tmp 6, .tmp 7]) [.pointer none, .int .i64 1] (.tuple #[.pointer none, .int .i64 1]) ⟨(by kernel_rfl), (by kernel_rfl), trivial⟩ (k := ?_)
  exact ⟨rfl, K⟩
set_option maxRecDepth 100000 in
set_option maxHeartbeats 4000000 in
theorem jnFormat_nil {k : Int} {l : List UInt8} (k1 : 1 ≤ k) (k2 : k ≤ 64) (w : World) : Calls Tryz.prog 10 #[.pointer none, .int .i64 k, .string ⟨l.toArray⟩] w fun e w' => e = .returned (.tuple #[.pointer none, .int .i64 1]) ∧ Adds w w' := by
  have K : Keeps (fun _ => False) w w := Keeps.refl _ w
  refine Calls.start Tryz.func10 rfl (by kernel_rfl) ?_
  refine WC.seq ?_
  refine WC.region ?_
  refine WL.op (d := 6) (.pointer none) (k := ?_)
  refine WL.op (d := 7) (.int .i64 0) (k := ?_)
  refine WL.nil ?_
  refine WX.seqN ?_
  refine WC.seq ?_
  refine WC.region ?_
  refine WL.op (d := 13) (.pointer none) (k := ?_)
  refine WL.op (d := 14) (.int .i64 k) (k := ?_)
  refine WL.callG (d := 15) (f := 22) (args := #[.pointer none, .int .i64 k]) (jnMade_nil (k := k) (by omega) (by omega) w) (k := fun e_ w1 h_ => ⟨.pointer none, h_.1, ?_⟩)
  have k2 := h_.2; clear h_
  replace K := K.trans (k2.any _)
  refine WL.op (d := 8) (.pointer none) (k := ?_)
  refine WL.nil ?_
  refine WX.seqN ?_
  refine WC.seq ?_
  refine WC.seq ?_
  refine WC.region ?_
  refine WL.op (d := 16) (.pointer none) (k := ?_)
  refine WL.op (d := 17) (.bool true) (k := ?_)
  refine WL.nil ?_
  refine WX.seqN ?_
  refine WC.condT (k := ?_)
  refine WC.seq ?_
  refine WC.region ?_
  refine WL.op (d := 6) (.pointer none) (k := ?_)
  refine WL.op (d := 7) (.int .i64 1) (k := ?_)
  refine WL.nil ?_
  refine WX.seqN ?_
  refine WC.ret ?_
  refine WX.seqR ?_
  refine WX.ret (rs := [.tmp 6, .tmp 7]) [.pointer none, .int .i64 1] (.tuple #[.pointer none, .int .i64 1]) ⟨(by kernel_rfl), (by kernel_rfl), trivial⟩ (k := ?_)
  exact ⟨rfl, K⟩
set_option maxRecDepth 100000 in
set_option maxHeartbeats 4000000 in
theorem jnOpen_ok {S : Nat → Prop} {dk : Nat} {d : GDisk} {k : Int} {X : RdX} {Y : ScX} {w : World} (hd : DiskAt S dk d w) (hc : 1 ≤ k ∧ k ≤ 64 ∧ 2 * k < (d.secs.length : Int)) (hX : rdF 0 k d.flushD = X) (hY : scF (2 * k) ((d.secs.length : Int) - 2 * k) X.e X.d = Y) (hXl : X.e < 18446744073709551616) (hF : d.flushE = 0) (hXb : X.bad = 0) (hXe : ¬ X.e = 0) (hYb : Y.bad = 0) : Calls Tryz.prog 13 #[.pointer (some ⟨dk, 0, none⟩), .int .i64 k] w fun e w' => ∃ jb A c S', e = .returned (.tuple #[.pointer (some ⟨jb, 0, none⟩), .agg #[.string ⟨X.t.toArray⟩, .slice A Y.xs.length c], .int .i64 0]) ∧ JnAt S' dk ⟨jb, k, (d.secs.length : Int) - 2 * k, true, X.e, X.rd, X.nw, X.la, Y.st, Y.d⟩ w' ∧ OwAt strC 1 9 A c Y.xs w' ∧ (∀ i, blk A = some i → w.heap.size ≤ i) ∧ (∀ i, blk A = some i → ¬ S' i) ∧ (∀ i, S' i → S i ∨ w.heap.size ≤ i) ∧ Keeps S w w' := by
  have K : Keeps S w w := Keeps.refl _ w
  have lk0 : ∀ k, S k → S k ∨ w.heap.size ≤ k := fun k h => .inl h
  have dl_ := hd.ok.2.2.2.2.1
  obtain ⟨m1, m2, m3⟩ := hc
  have h1 : (GDisk.flushE d != 0) = false := (by rw [hF]; rfl)
  have ph1 := of_bne_false h1
  have h2 : (RdX.bad X != 0) = false := (by rw [hXb]; rfl)
  have ph2 := of_bne_false h2
  have h3 : (decide (¬ RdX.e X = 0)) = true := decide_eq_true hXe
  have ph3 := of_decide_eq_true h3
  have h4 : (ScX.bad Y != 0) = false := (by rw [hYb]; rfl)
  have ph4 := of_bne_false h4
  refine Calls.start Tryz.func13 rfl (by kernel_rfl) ?_
  refine WC.seq ?_
  refine WC.region ?_
  refine WL.op (d := 4) (.pointer none) (k := ?_)
  refine WL.new (d := 5) (T := 33) #[.string ⟨#[]⟩, .slice none 0 0] (k := fun b5 w6 g7 hb8 k9 => ?_)
  have z10 := Nat.le_trans K.size g7
  have n11 : ¬ S b5 := fun h => absurd (hd.lt _ h) (Nat.not_lt.2 g7)
  replace hd := hd.adds k9
  replace K := K.trans (k9.any _)
  refine WL.op (d := 6) (.int .i64 0) (k := ?_)
  refine WL.nil ?_
  refine WX.seqN ?_
  refine WC.seq ?_
  refine WC.region ?_
  refine WL.op (d := 12) (.pointer (some ⟨dk, 0, none⟩)) (k := ?_)
  refine WL.op (d := 13) (.int .i64 k) (k := ?_)
  refine WL.callG (d := 14) (f := 22) (args := #[.pointer (some ⟨dk, 0, none⟩), .int .i64 k]) (jnMade_ok (k := k) hd (by omega)) (k := fun e_ w12 h_ => ?_)
  obtain ⟨jb13, lb14, sb15, rfl, g16, g17, g18, hj19, hl20, hs21, k22⟩ := h_
  refine ⟨_, rfl, ?_⟩
  have z23 := Nat.le_trans K.size g16
  have n24 : ¬ S jb13 := fun h => absurd (hd.lt _ h) (Nat.not_lt.2 g16)
  have n25 : b5 ≠ jb13 := Nat.ne_of_lt (Nat.lt_of_lt_of_le (lt_of_heap hb8) g16)
  have z26 := Nat.le_trans K.size g17
  have n27 : ¬ S lb14 := fun h => absurd (hd.lt _ h) (Nat.not_lt.2 g17)
  have n28 : b5 ≠ lb14 := Nat.ne_of_lt (Nat.lt_of_lt_of_le (lt_of_heap hb8) g17)
  have z29 := Nat.le_trans K.size g18
  have n30 : ¬ S sb15 := fun h => absurd (hd.lt _ h) (Nat.not_lt.2 g18)
  have n31 : b5 ≠ sb15 := Nat.ne_of_lt (Nat.lt_of_lt_of_le (lt_of_heap hb8) g18)
  replace hd := hd.adds k22
  replace hb8 := k22.heap hb8 id
  replace K := K.trans (k22.any _)
  have ne32 : jb13 ≠ lb14 := blk_ne hj19 hl20 (by decide)
  have ne33 : jb13 ≠ sb15 := blk_ne hj19 hs21 (by decide)
  have ne34 : lb14 ≠ sb15 := blk_ne hl20 hs21 (by decide)
  refine WL.op (d := 7) (.pointer (some ⟨jb13, 0, none⟩)) (k := ?_)
  refine WL.nil ?_
  refine WX.seqN ?_
  refine WC.seq ?_
  refine WC.seq ?_
  refine WC.region ?_
  refine WL.op (d := 15) (.pointer (some ⟨jb13, 0, none⟩)) (k := ?_)
  refine WL.op (d := 16) (.bool false) (k := ?_)
  refine WL.nil ?_
  refine WX.seqN ?_
  refine WC.condF (k := ?_)
  refine WC.skip ?_
  refine WX.seqN ?_
  refine WC.seq ?_
  refine WC.region ?_
  refine WL.op (d := 18) (.pointer (some ⟨dk, 0, none⟩)) (k := ?_)
  refine WL.callG (d := 19) (f := 28) (args := #[.pointer (some ⟨dk, 0, none⟩)]) (dFlush_c hd) (k := fun e_ w35 h_ => ?_)
  obtain ⟨rfl, S38, hd36, lk39, k37⟩ := h_
  refine ⟨_, rfl, ?_⟩
  have n40 : ¬ S38 b5 := fun h => (lk39 _ h).elim n11 (fun h2 => absurd (lt_of_heap hb8) (Nat.not_lt.2 h2))
  have n41 : ¬ S38 jb13 := fun h => (lk39 _ h).elim n24 (fun h2 => absurd (lt_of_heap hj19) (Nat.not_lt.2 h2))
  have n42 : ¬ S38 lb14 := fun h => (lk39 _ h).elim n27 (fun h2 => absurd (lt_of_heap hl20) (Nat.not_lt.2 h2))
  have n43 : ¬ S38 sb15 := fun h => (lk39 _ h).elim n30 (fun h2 => absurd (lt_of_heap hs21) (Nat.not_lt.2 h2))
  have lk44 := lk_step lk0 lk39 K
  replace hb8 := k37.heap hb8 n11
  replace hj19 := k37.heap hj19 n24
  replace hl20 := k37.heap hl20 n27
  replace hs21 := k37.heap hs21 n30
  replace K := K.trans' k37 (fun i hi e => (lk0 i e).elim (fun h => h) (fun h => absurd hi (Nat.not_lt.2 h)))
  clear hd
  refine WL.op (d := 8) (.int .i64 (GDisk.flushE d)) (k := ?_)
  refine WL.nil ?_
  refine WX.seqN ?_
  refine WC.seq ?_
  refine WC.seq ?_
  refine WC.region ?_
  refine WL.op (d := 20) (.int .i64 (GDisk.flushE d)) (k := ?_)
  refine WL.op (d := 21) (.bool ((GDisk.flushE d) != 0)) (k := ?_)
  refine WL.nil ?_
  refine WX.seqN ?_
  refine WC.cond (b := (GDisk.flushE d) != 0) (ht := fun h45 => ?_) (hf := fun h45 => ?_)
  · have ph45 := bne_iff_ne.1 h45
    refine WC.seq ?_
    refine WC.region ?_
    refine WL.op (d := 22) (.agg #[.string ⟨#[]⟩, .slice none 0 0]) (k := ?_)
    refine WL.op (d := 23) (.int .i64 (GDisk.flushE d)) (k := ?_)
    refine WL.op (d := 4) (.pointer none) (k := ?_)
    refine WL.store (v := .agg #[.string ⟨#[]⟩, .slice none 0 0]) (i := 0) (cs' := #[.string ⟨#[]⟩, .slice none 0 0]) hb8 (k := fun w46 hb47 k48 => ?_)
    replace hd36 := hd36.keeps k48 (fun i hi e => n40 (e ▸ hi))
    replace hj19 := k48.heap hj19 (Ne.symm n25)
    replace hl20 := k48.heap hl20 (Ne.symm n28)
    replace hs21 := k48.heap hs21 (Ne.symm n31)
    replace K := K.trans' k48 (fun i hi e => absurd (e ▸ hi) (Nat.not_lt.2 z10))
    clear hb8
    refine WL.op (d := 6) (.int .i64 (GDisk.flushE d)) (k := ?_)
    refine WL.nil ?_
    refine WX.seqN ?_
    refine WC.ret ?_
    refine WX.seqR ?_
    refine WX.ret (rs := [.tmp 4, .cell 5 33, .tmp 6]) [.pointer none, .agg #[.string ⟨#[]⟩, .slice none 0 0], .int .i64 (GDisk.flushE d)] (.tuple #[.pointer none, .agg #[.string ⟨#[]⟩, .slice none 0 0], .int .i64 (GDisk.flushE d)]) ⟨(by kernel_rfl), ⟨_, (by kernel_rfl), ldN (T := 33) (i := 0) (m := 2) (l := [.string ⟨#[]⟩, .slice none 0 0]) hb47⟩, (by kernel_rfl), trivial⟩ (k := ?_)
    exfalso; omega
  · have ph45 := of_bne_false h45
    refine WC.skip ?_
    refine WX.seqN ?_
    refine WC.seq ?_
    refine WC.region ?_
    refine WL.op (d := 25) (.pointer (some ⟨jb13, 0, none⟩)) (k := ?_)
    refine WL.op (d := 26) (.pointer (some ⟨jb13, 0, none⟩)) (k := ?_)
    refine WL.op (d := 27) (.pointer (some ⟨jb13, 1, none⟩)) (k := ?_)
    refine WL.load (v := .pointer (some ⟨sb15, 0, none⟩)) (ld1 (T := 60) (i := 1) hj19) (k := ?_)
    refine WL.callG (d := 29) (f := 23) (args := #[.pointer (some ⟨sb15, 0, none⟩)]) (svRead_all hX hs21 hd36 n43 (by omega) (by omega) (by omega) (by omega)) (k := fun e_ w49 h_ => ?_)
    obtain ⟨rfl, hb50, hd51, k52⟩ := h_
    refine ⟨_, rfl, ?_⟩
    replace K := K.trans' k52 (fun i hi e => e.elim (fun e => absurd (e ▸ hi) (Nat.not_lt.2 z29)) (fun e => (lk44 i e).elim (fun h => h) (fun h => absurd hi (Nat.not_lt.2 h))))
    replace hb8 := k52.heap hb8 (not_or.2 ⟨n31, n40⟩)
    replace hj19 := k52.heap hj19 (not_or.2 ⟨ne33, n41⟩)
    replace hl20 := k52.heap hl20 (not_or.2 ⟨ne34, n42⟩)
    clear hs21 hd36
    refine WL.op (d := 24) (.tuple #[.agg #[.int .u64 ((RdX.e X : Nat) : Int), .string ⟨(RdX.t X).toArray⟩], .bool (decide (¬ RdX.e X = 0)), .int .i64 (RdX.bad X)]) (k := ?_)
    refine WL.op (d := 30) (.agg #[.int .u64 ((RdX.e X : Nat) : Int), .string ⟨(RdX.t X).toArray⟩]) (k := ?_)
    refine WL.op (d := 31) (.bool (decide (¬ RdX.e X = 0))) (k := ?_)
    refine WL.op (d := 32) (.int .i64 (RdX.bad X)) (k := ?_)
    refine WL.new (d := 9) (T := 55) #[.int .u64 0, .string ⟨#[]⟩] (k := fun b53 w54 g55 hb56 k57 => ?_)
    have z58 := Nat.le_trans K.size g55
    have n59 : ¬ S38 b53 := fun h => absurd (hd51.lt _ h) (Nat.not_lt.2 g55)
    have n60 : b5 ≠ b53 := Nat.ne_of_lt (Nat.lt_of_lt_of_le (lt_of_heap hb8) g55)
    have n61 : jb13 ≠ b53 := Nat.ne_of_lt (Nat.lt_of_lt_of_le (lt_of_heap hj19) g55)
    have n62 : lb14 ≠ b53 := Nat.ne_of_lt (Nat.lt_of_lt_of_le (lt_of_heap hl20) g55)
    have n63 : sb15 ≠ b53 := Nat.ne_of_lt (Nat.lt_of_lt_of_le (lt_of_heap hb50) g55)
    replace hd51 := hd51.adds k57
    replace hb8 := k57.heap hb8 id
    replace hj19 := k57.heap hj19 id
    replace hl20 := k57.heap hl20 id
    replace hb50 := k57.heap hb50 id
    replace K := K.trans (k57.any _)
    refine WL.store (v := .agg #[.int .u64 ((RdX.e X : Nat) : Int), .string ⟨(RdX.t X).toArray⟩]) (i := 0) (cs' := #[.int .u64 ((RdX.e X : Nat) : Int), .string ⟨(RdX.t X).toArray⟩]) hb56 (k := fun w64 hb65 k66 => ?_)
    replace hd51 := hd51.keeps k66 (fun i hi e => n59 (e ▸ hi))
    replace hb8 := k66.heap hb8 n60
    replace hj19 := k66.heap hj19 n61
    replace hl20 := k66.heap hl20 n62
    replace hb50 := k66.heap hb50 n63
    replace K := K.trans' k66 (fun i hi e => absurd (e ▸ hi) (Nat.not_lt.2 z58))
    clear hb56
    refine WL.op (d := 10) (.bool (decide (¬ RdX.e X = 0))) (k := ?_)
    refine WL.op (d := 8) (.int .i64 (RdX.bad X)) (k := ?_)
    refine WL.nil ?_
    refine WX.seqN ?_
    refine WC.seq ?_
    refine WC.block ?_
    refine WC.seq ?_
    refine WC.region ?_
    refine WL.op (d := 34) (.int .i64 (RdX.bad X)) (k := ?_)
    refine WL.op (d := 35) (.bool ((RdX.bad X) != 0)) (k := ?_)
    refine WL.op (d := 33) (.bool ((RdX.bad X) != 0)) (k := ?_)
    refine WL.nil ?_
    refine WX.seqN ?_
    refine WC.cond (b := (RdX.bad X) != 0) (ht := fun h67 => ?_) (hf := fun h67 => ?_)
    · have ph67 := bne_iff_ne.1 h67
      refine WC.seq ?_
      refine WC.region ?_
      refine WL.op (d := 36) (.agg #[.string ⟨#[]⟩, .slice none 0 0]) (k := ?_)
      refine WL.op (d := 37) (.int .i64 (RdX.bad X)) (k := ?_)
      refine WL.op (d := 4) (.pointer none) (k := ?_)
      refine WL.store (v := .agg #[.string ⟨#[]⟩, .slice none 0 0]) (i := 0) (cs' := #[.string ⟨#[]⟩, .slice none 0 0]) hb8 (k := fun w68 hb69 k70 => ?_)
      replace hd51 := hd51.keeps k70 (fun i hi e => n40 (e ▸ hi))
      replace hj19 := k70.heap hj19 (Ne.symm n25)
      replace hl20 := k70.heap hl20 (Ne.symm n28)
      replace hb50 := k70.heap hb50 (Ne.symm n31)
      replace hb65 := k70.heap hb65 (Ne.symm n60)
      replace K := K.trans' k70 (fun i hi e => absurd (e ▸ hi) (Nat.not_lt.2 z10))
      clear hb8
      refine WL.op (d := 6) (.int .i64 (RdX.bad X)) (k := ?_)
      refine WL.nil ?_
      refine WX.seqN ?_
      refine WC.ret ?_
      refine WX.blockR ?_
      refine WX.seqR ?_
      refine WX.ret (rs := [.tmp 4, .cell 5 33, .tmp 6]) [.pointer none, .agg #[.string ⟨#[]⟩, .slice none 0 0], .int .i64 (RdX.bad X)] (.tuple #[.pointer none, .agg #[.string ⟨#[]⟩, .slice none 0 0], .int .i64 (RdX.bad X)]) ⟨(by kernel_rfl), ⟨_, (by kernel_rfl), ldN (T := 33) (i := 0) (m := 2) (l := [.string ⟨#[]⟩, .slice none 0 0]) hb69⟩, (by kernel_rfl), trivial⟩ (k := ?_)
      exfalso; omega
    · have ph67 := of_bne_false h67
      refine WC.seq ?_
      refine WC.region ?_
      refine WL.op (d := 39) (.bool (decide (¬ RdX.e X = 0))) (k := ?_)
      refine WL.op (d := 40) (.bool (!(decide (¬ RdX.e X = 0)))) (k := ?_)
      refine WL.op (d := 38) (.bool (!(decide (¬ RdX.e X = 0)))) (k := ?_)
      refine WL.nil ?_
      refine WX.seqN ?_
      refine WC.rw (t := 38) (v := .bool false) (congrArg Value.bool (congrArg Bool.not h3)) (k := ?_)
      refine WC.condF (k := ?_)
      refine WC.skip ?_
      refine WX.blockN ?_
      refine WX.seqN ?_
      refine WC.seq ?_
      refine WC.mixed (fun _ => False) 7 (k := fun w71 k72 => ?_)
      replace hd51 := hd51.adds k72
      replace hb8 := k72.heap hb8 id
      replace hj19 := k72.heap hj19 id
      replace hl20 := k72.heap hl20 id
      replace hb50 := k72.heap hb50 id
      replace hb65 := k72.heap hb65 id
      replace K := K.trans (k72.any _)
      have KC := Keeps.refl (fun _ => False) w71
      have bh73 := hb8
      have bh74 := hj19
      have bh75 := hl20
      have bh76 := hb50
      have bh77 := hb65
      have Kb := K
      refine WA.quietT 0 (d := 43) (.pointer (some ⟨jb13, 0, none⟩)) KC (hi := rfl) (k := ?_)
      refine WA.quietT 1 (d := 44) (.pointer (some ⟨jb13, 0, none⟩)) KC (hi := rfl) (k := ?_)
      refine WA.quietT 2 (d := 45) (.pointer (some ⟨jb13, 0, none⟩)) KC (hi := rfl) (k := ?_)
      refine WA.quietT 3 (d := 46) (.pointer (some ⟨jb13, 0, none⟩)) KC (hi := rfl) (k := ?_)
      refine WA.quietRT 4 (d := 47) (.pointer (some ⟨lb14, 0, none⟩)) KC (exec_load (fun w_ k_ => ld1 (T := 57) (i := 0) (k_.heap bh74 id))) (hi := rfl) (k := ?_)
      refine WA.quietT 5 (d := 48) (.pointer (some ⟨b53, 0, none⟩)) KC (hi := rfl) (k := ?_)
      refine WA.quietRT 6 (d := 49) (.int .u64 ((RdX.e X : Nat) : Int)) KC (exec_load (fun w_ k_ => ld1 (T := 41) (i := 0) (k_.heap bh77 id))) (hi := rfl) (k := ?_)
      refine WA.step 7 (hi := rfl) (k := ?_)
      refine WL.callG (d := 50) (f := 29) (args := #[.pointer (some ⟨lb14, 0, none⟩), .int .u64 ((RdX.e X : Nat) : Int)]) (wlScan_all hY hl20 hd51 n42 (by omega) (by omega) (by omega) (by omega) (by omega)) (k := fun e_ w78 h_ => ?_)
      obtain ⟨A79, c80, rfl, hb81, ho82, ol83, hd84, n85, k86⟩ := h_
      refine ⟨_, rfl, ?_⟩
      have ol87 := fun i h => Nat.le_trans K.size (ol83 i h)
      replace K := K.trans' k86 (fun i hi e => e.elim (fun e => absurd (e ▸ hi) (Nat.not_lt.2 z26)) (fun e => (lk44 i e).elim (fun h => h) (fun h => absurd hi (Nat.not_lt.2 h))))
      replace hb8 := k86.heap hb8 (not_or.2 ⟨n28, n40⟩)
      replace hj19 := k86.heap hj19 (not_or.2 ⟨ne32, n41⟩)
      replace hb50 := k86.heap hb50 (not_or.2 ⟨Ne.symm ne34, n43⟩)
      replace hb65 := k86.heap hb65 (not_or.2 ⟨Ne.symm n62, n59⟩)
      clear hl20 hd51 ol83
      refine WL.nil ?_
      refine WX.nxtL ?_
      refine WA.step 8 (hi := rfl) (k := ?_)
      refine WL.op (d := 42) (.tuple #[.slice A79 (List.length (ScX.xs Y)) c80, .int .i64 (ScX.bad Y)]) (k := ?_)
      refine WL.nil ?_
      refine WX.nxtB (k := ?_)
      refine WA.step2 9 10 (hi := rfl) (hj := rfl) (k1 := ?_) (k2 := ?_)
      · refine WL.op (d := 51) (.slice A79 (List.length (ScX.xs Y)) c80) (k := ?_)
        refine WL.nil ?_
        refine WX.nxtB (k := ?_)
        refine WA.step2 10 11 (hi := rfl) (hj := rfl) (k1 := ?_) (k2 := ?_)
        · refine WL.op (d := 52) (.int .i64 (ScX.bad Y)) (k := ?_)
          refine WL.nil ?_
          refine WX.nxtB (k := ?_)
          refine WA.step 11 (hi := rfl) (k := ?_)
          refine WL.op (d := 11) (.slice A79 (List.length (ScX.xs Y)) c80) (k := ?_)
          refine WL.nil ?_
          refine WX.nxtB (k := ?_)
          refine WA.step 12 (hi := rfl) (k := ?_)
          refine WL.op (d := 8) (.int .i64 (ScX.bad Y)) (k := ?_)
          refine WL.nil ?_
          refine WX.nxtB (k := ?_)
          refine WA.done (k := ?_)
          clear KC
          refine WX.seqN ?_
          refine WC.seq ?_
          refine WC.seq ?_
          refine WC.region ?_
          refine WL.op (d := 53) (.int .i64 (ScX.bad Y)) (k := ?_)
          refine WL.op (d := 54) (.bool ((ScX.bad Y) != 0)) (k := ?_)
          refine WL.nil ?_
          refine WX.seqN ?_
          refine WC.cond (b := (ScX.bad Y) != 0) (ht := fun h88 => ?_) (hf := fun h88 => ?_)
          · have ph88 := bne_iff_ne.1 h88
            refine WC.seq ?_
            refine WC.region ?_
            refine WL.op (d := 55) (.agg #[.string ⟨#[]⟩, .slice none 0 0]) (k := ?_)
            refine WL.op (d := 56) (.int .i64 (ScX.bad Y)) (k := ?_)
            refine WL.op (d := 4) (.pointer none) (k := ?_)
            refine WL.store (v := .agg #[.string ⟨#[]⟩, .slice none 0 0]) (i := 0) (cs' := #[.string ⟨#[]⟩, .slice none 0 0]) hb8 (k := fun w89 hb90 k91 => ?_)
            replace hd84 := hd84.keeps k91 (fun i hi e => n40 (e ▸ hi))
            replace hj19 := k91.heap hj19 (Ne.symm n25)
            replace hb81 := k91.heap hb81 (Ne.symm n28)
            replace hb50 := k91.heap hb50 (Ne.symm n31)
            replace hb65 := k91.heap hb65 (Ne.symm n60)
            replace ho82 := ho82.keeps k91 (fun i hi e => (ho82.offT hb8 (by decide)) (e ▸ hi))
            replace K := K.trans' k91 (fun i hi e => absurd (e ▸ hi) (Nat.not_lt.2 z10))
            clear hb8
            refine WL.op (d := 6) (.int .i64 (ScX.bad Y)) (k := ?_)
            refine WL.nil ?_
            refine WX.seqN ?_
            refine WC.ret ?_
            refine WX.seqR ?_
            refine WX.ret (rs := [.tmp 4, .cell 5 33, .tmp 6]) [.pointer none, .agg #[.string ⟨#[]⟩, .slice none 0 0], .int .i64 (ScX.bad Y)] (.tuple #[.pointer none, .agg #[.string ⟨#[]⟩, .slice none 0 0], .int .i64 (ScX.bad Y)]) ⟨(by kernel_rfl), ⟨_, (by kernel_rfl), ldN (T := 33) (i := 0) (m := 2) (l := [.string ⟨#[]⟩, .slice none 0 0]) hb90⟩, (by kernel_rfl), trivial⟩ (k := ?_)
            exfalso; omega
          · have ph88 := of_bne_false h88
            refine WC.skip ?_
            refine WX.seqN ?_
            refine WC.seq ?_
            refine WC.region ?_
            refine WL.op (d := 57) (.pointer (some ⟨jb13, 0, none⟩)) (k := ?_)
            refine WL.op (d := 58) (.pointer (some ⟨jb13, 0, none⟩)) (k := ?_)
            refine WL.op (d := 59) (.pointer (some ⟨b53, 0, none⟩)) (k := ?_)
            refine WL.load (v := .int .u64 ((RdX.e X : Nat) : Int)) (ld1 (T := 41) (i := 0) hb65) (k := ?_)
            refine WL.op (d := 61) (.pointer (some ⟨jb13, 0, none⟩)) (k := ?_)
            refine WL.op (d := 62) (.pointer (some ⟨jb13, 3, none⟩)) (k := ?_)
            refine WL.store (v := .int .u64 ((RdX.e X : Nat) : Int)) (i := 3) (cs' := #[.pointer (some ⟨lb14, 0, none⟩), .pointer (some ⟨sb15, 0, none⟩), .bool false, .int .u64 ((RdX.e X : Nat) : Int)]) hj19 (k := fun w92 hb93 k94 => ?_)
            replace hd84 := hd84.keeps k94 (fun i hi e => n41 (e ▸ hi))
            replace hb8 := k94.heap hb8 n25
            replace hb81 := k94.heap hb81 (Ne.symm ne32)
            replace hb50 := k94.heap hb50 (Ne.symm ne33)
            replace hb65 := k94.heap hb65 (Ne.symm n61)
            replace ho82 := ho82.keeps k94 (fun i hi e => (ho82.offT hj19 (by decide)) (e ▸ hi))
            replace K := K.trans' k94 (fun i hi e => absurd (e ▸ hi) (Nat.not_lt.2 z23))
            clear hj19
            refine WL.op (d := 63) (.pointer (some ⟨jb13, 0, none⟩)) (k := ?_)
            refine WL.op (d := 64) (.pointer (some ⟨jb13, 2, none⟩)) (k := ?_)
            refine WL.store (v := .bool true) (i := 2) (cs' := #[.pointer (some ⟨lb14, 0, none⟩), .pointer (some ⟨sb15, 0, none⟩), .bool true, .int .u64 ((RdX.e X : Nat) : Int)]) hb93 (k := fun w95 hb96 k97 => ?_)
            replace hd84 := hd84.keeps k97 (fun i hi e => n41 (e ▸ hi))
            replace hb8 := k97.heap hb8 n25
            replace hb81 := k97.heap hb81 (Ne.symm ne32)
            replace hb50 := k97.heap hb50 (Ne.symm ne33)
            replace hb65 := k97.heap hb65 (Ne.symm n61)
            replace ho82 := ho82.keeps k97 (fun i hi e => (ho82.offT hb93 (by decide)) (e ▸ hi))
            replace K := K.trans' k97 (fun i hi e => absurd (e ▸ hi) (Nat.not_lt.2 z23))
            clear hb93
            refine WL.nil ?_
            refine WX.seqN ?_
            refine WC.seq ?_
            refine WC.mixed (fun k => k = b5) 7 (k := fun w98 k99 => ?_)
            replace hd84 := hd84.adds k99
            replace hb8 := k99.heap hb8 id
            replace hb96 := k99.heap hb96 id
            replace hb81 := k99.heap hb81 id
            replace hb50 := k99.heap hb50 id
            replace hb65 := k99.heap hb65 id
            replace ho82 := ho82.adds k99
            replace K := K.trans (k99.any _)
            have KC := Keeps.refl (fun k => k = b5) w98
            have bh100 := hb8
            have bh101 := hb96
            have bh102 := hb81
            have bh103 := hb50
            have bh104 := hb65
            have Kb := K
            refine WA.quiet 0 (d := 65) (.pointer (some ⟨jb13, 0, none⟩)) KC (hi := rfl) (k := ?_)
            refine WA.quiet 1 (d := 66) (.pointer (some ⟨b53, 1, none⟩)) KC (hi := rfl) (k := ?_)
            refine WA.quietR 2 (d := 67) (.string ⟨(RdX.t X).toArray⟩) KC (exec_load (fun w_ k_ => ld1 (T := 9) (i := 1) (k_.heap bh104 (Ne.symm n60)))) (hi := rfl) (k := ?_)
            refine WA.quiet 3 (d := 68) (.slice A79 (List.length (ScX.xs Y)) c80) KC (hi := rfl) (k := ?_)
            refine WA.quiet 4 (d := 69) (.agg #[.string ⟨(RdX.t X).toArray⟩, .slice A79 (List.length (ScX.xs Y)) c80]) KC (hi := rfl) (k := ?_)
            refine WA.quiet 5 (d := 4) (.pointer (some ⟨jb13, 0, none⟩)) KC (hi := rfl) (k := ?_)
            refine WA.step 6 (hi := rfl) (k := ?_)
            refine WL.store (v := .agg #[.string ⟨(RdX.t X).toArray⟩, .slice A79 (List.length (ScX.xs Y)) c80]) (i := 0) (cs' := #[.string ⟨(RdX.t X).toArray⟩, .slice A79 (List.length (ScX.xs Y)) c80]) hb8 (k := fun w105 hb106 k107 => ?_)
            replace hd84 := hd84.keeps k107 (fun i hi e => n40 (e ▸ hi))
            replace hb96 := k107.heap hb96 (Ne.symm n25)
            replace hb81 := k107.heap hb81 (Ne.symm n28)
            replace hb50 := k107.heap hb50 (Ne.symm n31)
            replace hb65 := k107.heap hb65 (Ne.symm n60)
            replace ho82 := ho82.keeps k107 (fun i hi e => (ho82.offT hb8 (by decide)) (e ▸ hi))
            replace K := K.trans' k107 (fun i hi e => absurd (e ▸ hi) (Nat.not_lt.2 z10))
            replace KC := KC.trans' k107 (fun i hi e => e)
            clear hb8
            refine WL.nil ?_
            refine WX.nxt KC ?_
            refine WA.step 7 (hi := rfl) (k := ?_)
            refine WL.op (d := 6) (.int .i64 0) (k := ?_)
            refine WL.nil ?_
            refine WX.nxtL ?_
            refine WA.done (k := ?_)
            clear KC
            refine WX.seqN ?_
            refine WC.ret ?_
            refine WX.ret (rs := [.tmp 4, .cell 5 33, .tmp 6]) [.pointer (some ⟨jb13, 0, none⟩), .agg #[.string ⟨(RdX.t X).toArray⟩, .slice A79 (List.length (ScX.xs Y)) c80], .int .i64 0] (.tuple #[.pointer (some ⟨jb13, 0, none⟩), .agg #[.string ⟨(RdX.t X).toArray⟩, .slice A79 (List.length (ScX.xs Y)) c80], .int .i64 0]) ⟨(by kernel_rfl), ⟨_, (by kernel_rfl), ldN (T := 33) (i := 0) (m := 2) (l := [.string ⟨(RdX.t X).toArray⟩, .slice A79 (List.length (ScX.xs Y)) c80]) hb106⟩, (by kernel_rfl), trivial⟩ (k := ?_)
            exact ⟨_, _, _, _, rfl, ⟨_, _, _, hd84, hb96, hb81, hb50, n41, n42, n43, fun i => Iff.rfl⟩, ho82, ol87, (fun i hi h => h.elim (n85 i hi) (fun h => h.elim (fun e => (ho82.offT hb96 (by decide)) ((show i = jb13 from e) ▸ hi)) (fun h => h.elim (fun e => (ho82.offT hb81 (by decide)) (e ▸ hi)) (fun e => (ho82.offT hb50 (by decide)) (e ▸ hi))))), (fun i h => h.elim (fun h => lk44 i h) (fun h => .inr (h.elim (fun e => e ▸ z23) (fun h => h.elim (fun e => e ▸ z26) (fun e => e ▸ z29))))), K⟩
        · refine WL.op (d := 11) (.slice A79 (List.length (ScX.xs Y)) c80) (k := ?_)
          refine WL.nil ?_
          refine WX.nxtB (k := ?_)
          refine WA.step 10 (hi := rfl) (k := ?_)
          refine WL.op (d := 52) (.int .i64 (ScX.bad Y)) (k := ?_)
          refine WL.nil ?_
          refine WX.nxtB (k := ?_)
          refine WA.step 12 (hi := rfl) (k := ?_)
          refine WL.op (d := 8) (.int .i64 (ScX.bad Y)) (k := ?_)
          refine WL.nil ?_
          refine WX.nxtB (k := ?_)
          refine WA.done (k := ?_)
          clear KC
          refine WX.seqN ?_
          refine WC.seq ?_
          refine WC.seq ?_
          refine WC.region ?_
          refine WL.op (d := 53) (.int .i64 (ScX.bad Y)) (k := ?_)
          refine WL.op (d := 54) (.bool ((ScX.bad Y) != 0)) (k := ?_)
          refine WL.nil ?_
          refine WX.seqN ?_
          refine WC.cond (b := (ScX.bad Y) != 0) (ht := fun h108 => ?_) (hf := fun h108 => ?_)
          · have ph108 := bne_iff_ne.1 h108
            refine WC.seq ?_
            refine WC.region ?_
            refine WL.op (d := 55) (.agg #[.string ⟨#[]⟩, .slice none 0 0]) (k := ?_)
            refine WL.op (d := 56) (.int .i64 (ScX.bad Y)) (k := ?_)
            refine WL.op (d := 4) (.pointer none) (k := ?_)
            refine WL.store (v := .agg #[.string ⟨#[]⟩, .slice none 0 0]) (i := 0) (cs' := #[.string ⟨#[]⟩, .slice none 0 0]) hb8 (k := fun w109 hb110 k111 => ?_)
            replace hd84 := hd84.keeps k111 (fun i hi e => n40 (e ▸ hi))
            replace hj19 := k111.heap hj19 (Ne.symm n25)
            replace hb81 := k111.heap hb81 (Ne.symm n28)
            replace hb50 := k111.heap hb50 (Ne.symm n31)
            replace hb65 := k111.heap hb65 (Ne.symm n60)
            replace ho82 := ho82.keeps k111 (fun i hi e => (ho82.offT hb8 (by decide)) (e ▸ hi))
            replace K := K.trans' k111 (fun i hi e => absurd (e ▸ hi) (Nat.not_lt.2 z10))
            clear hb8
            refine WL.op (d := 6) (.int .i64 (ScX.bad Y)) (k := ?_)
            refine WL.nil ?_
            refine WX.seqN ?_
            refine WC.ret ?_
            refine WX.seqR ?_
            refine WX.ret (rs := [.tmp 4, .cell 5 33, .tmp 6]) [.pointer none, .agg #[.string ⟨#[]⟩, .slice none 0 0], .int .i64 (ScX.bad Y)] (.tuple #[.pointer none, .agg #[.string ⟨#[]⟩, .slice none 0 0], .int .i64 (ScX.bad Y)]) ⟨(by kernel_rfl), ⟨_, (by kernel_rfl), ldN (T := 33) (i := 0) (m := 2) (l := [.string ⟨#[]⟩, .slice none 0 0]) hb110⟩, (by kernel_rfl), trivial⟩ (k := ?_)
            exfalso; omega
          · have ph108 := of_bne_false h108
            refine WC.skip ?_
            refine WX.seqN ?_
            refine WC.seq ?_
            refine WC.region ?_
            refine WL.op (d := 57) (.pointer (some ⟨jb13, 0, none⟩)) (k := ?_)
            refine WL.op (d := 58) (.pointer (some ⟨jb13, 0, none⟩)) (k := ?_)
            refine WL.op (d := 59) (.pointer (some ⟨b53, 0, none⟩)) (k := ?_)
            refine WL.load (v := .int .u64 ((RdX.e X : Nat) : Int)) (ld1 (T := 41) (i := 0) hb65) (k := ?_)
            refine WL.op (d := 61) (.pointer (some ⟨jb13, 0, none⟩)) (k := ?_)
            refine WL.op (d := 62) (.pointer (some ⟨jb13, 3, none⟩)) (k := ?_)
            refine WL.store (v := .int .u64 ((RdX.e X : Nat) : Int)) (i := 3) (cs' := #[.pointer (some ⟨lb14, 0, none⟩), .pointer (some ⟨sb15, 0, none⟩), .bool false, .int .u64 ((RdX.e X : Nat) : Int)]) hj19 (k := fun w112 hb113 k114 => ?_)
            replace hd84 := hd84.keeps k114 (fun i hi e => n41 (e ▸ hi))
            replace hb8 := k114.heap hb8 n25
            replace hb81 := k114.heap hb81 (Ne.symm ne32)
            replace hb50 := k114.heap hb50 (Ne.symm ne33)
            replace hb65 := k114.heap hb65 (Ne.symm n61)
            replace ho82 := ho82.keeps k114 (fun i hi e => (ho82.offT hj19 (by decide)) (e ▸ hi))
            replace K := K.trans' k114 (fun i hi e => absurd (e ▸ hi) (Nat.not_lt.2 z23))
            clear hj19
            refine WL.op (d := 63) (.pointer (some ⟨jb13, 0, none⟩)) (k := ?_)
            refine WL.op (d := 64) (.pointer (some ⟨jb13, 2, none⟩)) (k := ?_)
            refine WL.store (v := .bool true) (i := 2) (cs' := #[.pointer (some ⟨lb14, 0, none⟩), .pointer (some ⟨sb15, 0, none⟩), .bool true, .int .u64 ((RdX.e X : Nat) : Int)]) hb113 (k := fun w115 hb116 k117 => ?_)
            replace hd84 := hd84.keeps k117 (fun i hi e => n41 (e ▸ hi))
            replace hb8 := k117.heap hb8 n25
            replace hb81 := k117.heap hb81 (Ne.symm ne32)
            replace hb50 := k117.heap hb50 (Ne.symm ne33)
            replace hb65 := k117.heap hb65 (Ne.symm n61)
            replace ho82 := ho82.keeps k117 (fun i hi e => (ho82.offT hb113 (by decide)) (e ▸ hi))
            replace K := K.trans' k117 (fun i hi e => absurd (e ▸ hi) (Nat.not_lt.2 z23))
            clear hb113
            refine WL.nil ?_
            refine WX.seqN ?_
            refine WC.seq ?_
            refine WC.mixed (fun k => k = b5) 7 (k := fun w118 k119 => ?_)
            replace hd84 := hd84.adds k119
            replace hb8 := k119.heap hb8 id
            replace hb116 := k119.heap hb116 id
            replace hb81 := k119.heap hb81 id
            replace hb50 := k119.heap hb50 id
            replace hb65 := k119.heap hb65 id
            replace ho82 := ho82.adds k119
            replace K := K.trans (k119.any _)
            have KC := Keeps.refl (fun k => k = b5) w118
            have bh120 := hb8
            have bh121 := hb116
            have bh122 := hb81
            have bh123 := hb50
            have bh124 := hb65
            have Kb := K
            refine WA.quiet 0 (d := 65) (.pointer (some ⟨jb13, 0, none⟩)) KC (hi := rfl) (k := ?_)
            refine WA.quiet 1 (d := 66) (.pointer (some ⟨b53, 1, none⟩)) KC (hi := rfl) (k := ?_)
            refine WA.quietR 2 (d := 67) (.string ⟨(RdX.t X).toArray⟩) KC (exec_load (fun w_ k_ => ld1 (T := 9) (i := 1) (k_.heap bh124 (Ne.symm n60)))) (hi := rfl) (k := ?_)
            refine WA.quiet 3 (d := 68) (.slice A79 (List.length (ScX.xs Y)) c80) KC (hi := rfl) (k := ?_)
            refine WA.quiet 4 (d := 69) (.agg #[.string ⟨(RdX.t X).toArray⟩, .slice A79 (List.length (ScX.xs Y)) c80]) KC (hi := rfl) (k := ?_)
            refine WA.quiet 5 (d := 4) (.pointer (some ⟨jb13, 0, none⟩)) KC (hi := rfl) (k := ?_)
            refine WA.step 6 (hi := rfl) (k := ?_)
            refine WL.store (v := .agg #[.string ⟨(RdX.t X).toArray⟩, .slice A79 (List.length (ScX.xs Y)) c80]) (i := 0) (cs' := #[.string ⟨(RdX.t X).toArray⟩, .slice A79 (List.length (ScX.xs Y)) c80]) hb8 (k := fun w125 hb126 k127 => ?_)
            replace hd84 := hd84.keeps k127 (fun i hi e => n40 (e ▸ hi))
            replace hb116 := k127.heap hb116 (Ne.symm n25)
            replace hb81 := k127.heap hb81 (Ne.symm n28)
            replace hb50 := k127.heap hb50 (Ne.symm n31)
            replace hb65 := k127.heap hb65 (Ne.symm n60)
            replace ho82 := ho82.keeps k127 (fun i hi e => (ho82.offT hb8 (by decide)) (e ▸ hi))
            replace K := K.trans' k127 (fun i hi e => absurd (e ▸ hi) (Nat.not_lt.2 z10))
            replace KC := KC.trans' k127 (fun i hi e => e)
            clear hb8
            refine WL.nil ?_
            refine WX.nxt KC ?_
            refine WA.step 7 (hi := rfl) (k := ?_)
            refine WL.op (d := 6) (.int .i64 0) (k := ?_)
            refine WL.nil ?_
            refine WX.nxtL ?_
            refine WA.done (k := ?_)
            clear KC
            refine WX.seqN ?_
            refine WC.ret ?_
            refine WX.ret (rs := [.tmp 4, .cell 5 33, .tmp 6]) [.pointer (some ⟨jb13, 0, none⟩), .agg #[.string ⟨(RdX.t X).toArray⟩, .slice A79 (List.length (ScX.xs Y)) c80], .int .i64 0] (.tuple #[.pointer (some ⟨jb13, 0, none⟩), .agg #[.string ⟨(RdX.t X).toArray⟩, .slice A79 (List.length (ScX.xs Y)) c80], .int .i64 0]) ⟨(by kernel_rfl), ⟨_, (by kernel_rfl), ldN (T := 33) (i := 0) (m := 2) (l := [.string ⟨(RdX.t X).toArray⟩, .slice A79 (List.length (ScX.xs Y)) c80]) hb126⟩, (by kernel_rfl), trivial⟩ (k := ?_)
            exact ⟨_, _, _, _, rfl, ⟨_, _, _, hd84, hb116, hb81, hb50, n41, n42, n43, fun i => Iff.rfl⟩, ho82, ol87, (fun i hi h => h.elim (n85 i hi) (fun h => h.elim (fun e => (ho82.offT hb116 (by decide)) ((show i = jb13 from e) ▸ hi)) (fun h => h.elim (fun e => (ho82.offT hb81 (by decide)) (e ▸ hi)) (fun e => (ho82.offT hb50 (by decide)) (e ▸ hi))))), (fun i h => h.elim (fun h => lk44 i h) (fun h => .inr (h.elim (fun e => e ▸ z23) (fun h => h.elim (fun e => e ▸ z26) (fun e => e ▸ z29))))), K⟩
      · refine WL.op (d := 52) (.int .i64 (ScX.bad Y)) (k := ?_)
        refine WL.nil ?_
        refine WX.nxtB (k := ?_)
        refine WA.step 9 (hi := rfl) (k := ?_)
        refine WL.op (d := 51) (.slice A79 (List.length (ScX.xs Y)) c80) (k := ?_)
        refine WL.nil ?_
        refine WX.nxtB (k := ?_)
        refine WA.step 11 (hi := rfl) (k := ?_)
        refine WL.op (d := 11) (.slice A79 (List.length (ScX.xs Y)) c80) (k := ?_)
        refine WL.nil ?_
        refine WX.nxtB (k := ?_)
        refine WA.step 12 (hi := rfl) (k := ?_)
        refine WL.op (d := 8) (.int .i64 (ScX.bad Y)) (k := ?_)
        refine WL.nil ?_
        refine WX.nxtB (k := ?_)
        refine WA.done (k := ?_)
        clear KC
        refine WX.seqN ?_
        refine WC.seq ?_
        refine WC.seq ?_
        refine WC.region ?_
        refine WL.op (d := 53) (.int .i64 (ScX.bad Y)) (k := ?_)
        refine WL.op (d := 54) (.bool ((ScX.bad Y) != 0)) (k := ?_)
        refine WL.nil ?_
        refine WX.seqN ?_
        refine WC.cond (b := (ScX.bad Y) != 0) (ht := fun h128 => ?_) (hf := fun h128 => ?_)
        · have ph128 := bne_iff_ne.1 h128
          refine WC.seq ?_
          refine WC.region ?_
          refine WL.op (d := 55) (.agg #[.string ⟨#[]⟩, .slice none 0 0]) (k := ?_)
          refine WL.op (d := 56) (.int .i64 (ScX.bad Y)) (k := ?_)
          refine WL.op (d := 4) (.pointer none) (k := ?_)
          refine WL.store (v := .agg #[.string ⟨#[]⟩, .slice none 0 0]) (i := 0) (cs' := #[.string ⟨#[]⟩, .slice none 0 0]) hb8 (k := fun w129 hb130 k131 => ?_)
          replace hd84 := hd84.keeps k131 (fun i hi e => n40 (e ▸ hi))
          replace hj19 := k131.heap hj19 (Ne.symm n25)
          replace hb81 := k131.heap hb81 (Ne.symm n28)
          replace hb50 := k131.heap hb50 (Ne.symm n31)
          replace hb65 := k131.heap hb65 (Ne.symm n60)
          replace ho82 := ho82.keeps k131 (fun i hi e => (ho82.offT hb8 (by decide)) (e ▸ hi))
          replace K := K.trans' k131 (fun i hi e => absurd (e ▸ hi) (Nat.not_lt.2 z10))
          clear hb8
          refine WL.op (d := 6) (.int .i64 (ScX.bad Y)) (k := ?_)
          refine WL.nil ?_
          refine WX.seqN ?_
          refine WC.ret ?_
          refine WX.seqR ?_
          refine WX.ret (rs := [.tmp 4, .cell 5 33, .tmp 6]) [.pointer none, .agg #[.string ⟨#[]⟩, .slice none 0 0], .int .i64 (ScX.bad Y)] (.tuple #[.pointer none, .agg #[.string ⟨#[]⟩, .slice none 0 0], .int .i64 (ScX.bad Y)]) ⟨(by kernel_rfl), ⟨_, (by kernel_rfl), ldN (T := 33) (i := 0) (m := 2) (l := [.string ⟨#[]⟩, .slice none 0 0]) hb130⟩, (by kernel_rfl), trivial⟩ (k := ?_)
          exfalso; omega
        · have ph128 := of_bne_false h128
          refine WC.skip ?_
          refine WX.seqN ?_
          refine WC.seq ?_
          refine WC.region ?_
          refine WL.op (d := 57) (.pointer (some ⟨jb13, 0, none⟩)) (k := ?_)
          refine WL.op (d := 58) (.pointer (some ⟨jb13, 0, none⟩)) (k := ?_)
          refine WL.op (d := 59) (.pointer (some ⟨b53, 0, none⟩)) (k := ?_)
          refine WL.load (v := .int .u64 ((RdX.e X : Nat) : Int)) (ld1 (T := 41) (i := 0) hb65) (k := ?_)
          refine WL.op (d := 61) (.pointer (some ⟨jb13, 0, none⟩)) (k := ?_)
          refine WL.op (d := 62) (.pointer (some ⟨jb13, 3, none⟩)) (k := ?_)
          refine WL.store (v := .int .u64 ((RdX.e X : Nat) : Int)) (i := 3) (cs' := #[.pointer (some ⟨lb14, 0, none⟩), .pointer (some ⟨sb15, 0, none⟩), .bool false, .int .u64 ((RdX.e X : Nat) : Int)]) hj19 (k := fun w132 hb133 k134 => ?_)
          replace hd84 := hd84.keeps k134 (fun i hi e => n41 (e ▸ hi))
          replace hb8 := k134.heap hb8 n25
          replace hb81 := k134.heap hb81 (Ne.symm ne32)
          replace hb50 := k134.heap hb50 (Ne.symm ne33)
          replace hb65 := k134.heap hb65 (Ne.symm n61)
          replace ho82 := ho82.keeps k134 (fun i hi e => (ho82.offT hj19 (by decide)) (e ▸ hi))
          replace K := K.trans' k134 (fun i hi e => absurd (e ▸ hi) (Nat.not_lt.2 z23))
          clear hj19
          refine WL.op (d := 63) (.pointer (some ⟨jb13, 0, none⟩)) (k := ?_)
          refine WL.op (d := 64) (.pointer (some ⟨jb13, 2, none⟩)) (k := ?_)
          refine WL.store (v := .bool true) (i := 2) (cs' := #[.pointer (some ⟨lb14, 0, none⟩), .pointer (some ⟨sb15, 0, none⟩), .bool true, .int .u64 ((RdX.e X : Nat) : Int)]) hb133 (k := fun w135 hb136 k137 => ?_)
          replace hd84 := hd84.keeps k137 (fun i hi e => n41 (e ▸ hi))
          replace hb8 := k137.heap hb8 n25
          replace hb81 := k137.heap hb81 (Ne.symm ne32)
          replace hb50 := k137.heap hb50 (Ne.symm ne33)
          replace hb65 := k137.heap hb65 (Ne.symm n61)
          replace ho82 := ho82.keeps k137 (fun i hi e => (ho82.offT hb133 (by decide)) (e ▸ hi))
          replace K := K.trans' k137 (fun i hi e => absurd (e ▸ hi) (Nat.not_lt.2 z23))
          clear hb133
          refine WL.nil ?_
          refine WX.seqN ?_
          refine WC.seq ?_
          refine WC.mixed (fun k => k = b5) 7 (k := fun w138 k139 => ?_)
          replace hd84 := hd84.adds k139
          replace hb8 := k139.heap hb8 id
          replace hb136 := k139.heap hb136 id
          replace hb81 := k139.heap hb81 id
          replace hb50 := k139.heap hb50 id
          replace hb65 := k139.heap hb65 id
          replace ho82 := ho82.adds k139
          replace K := K.trans (k139.any _)
          have KC := Keeps.refl (fun k => k = b5) w138
          have bh140 := hb8
          have bh141 := hb136
          have bh142 := hb81
          have bh143 := hb50
          have bh144 := hb65
          have Kb := K
          refine WA.quiet 0 (d := 65) (.pointer (some ⟨jb13, 0, none⟩)) KC (hi := rfl) (k := ?_)
          refine WA.quiet 1 (d := 66) (.pointer (some ⟨b53, 1, none⟩)) KC (hi := rfl) (k := ?_)
          refine WA.quietR 2 (d := 67) (.string ⟨(RdX.t X).toArray⟩) KC (exec_load (fun w_ k_ => ld1 (T := 9) (i := 1) (k_.heap bh144 (Ne.symm n60)))) (hi := rfl) (k := ?_)
          refine WA.quiet 3 (d := 68) (.slice A79 (List.length (ScX.xs Y)) c80) KC (hi := rfl) (k := ?_)
          refine WA.quiet 4 (d := 69) (.agg #[.string ⟨(RdX.t X).toArray⟩, .slice A79 (List.length (ScX.xs Y)) c80]) KC (hi := rfl) (k := ?_)
          refine WA.quiet 5 (d := 4) (.pointer (some ⟨jb13, 0, none⟩)) KC (hi := rfl) (k := ?_)
          refine WA.step 6 (hi := rfl) (k := ?_)
          refine WL.store (v := .agg #[.string ⟨(RdX.t X).toArray⟩, .slice A79 (List.length (ScX.xs Y)) c80]) (i := 0) (cs' := #[.string ⟨(RdX.t X).toArray⟩, .slice A79 (List.length (ScX.xs Y)) c80]) hb8 (k := fun w145 hb146 k147 => ?_)
          replace hd84 := hd84.keeps k147 (fun i hi e => n40 (e ▸ hi))
          replace hb136 := k147.heap hb136 (Ne.symm n25)
          replace hb81 := k147.heap hb81 (Ne.symm n28)
          replace hb50 := k147.heap hb50 (Ne.symm n31)
          replace hb65 := k147.heap hb65 (Ne.symm n60)
          replace ho82 := ho82.keeps k147 (fun i hi e => (ho82.offT hb8 (by decide)) (e ▸ hi))
          replace K := K.trans' k147 (fun i hi e => absurd (e ▸ hi) (Nat.not_lt.2 z10))
          replace KC := KC.trans' k147 (fun i hi e => e)
          clear hb8
          refine WL.nil ?_
          refine WX.nxt KC ?_
          refine WA.step 7 (hi := rfl) (k := ?_)
          refine WL.op (d := 6) (.int .i64 0) (k := ?_)
          refine WL.nil ?_
          refine WX.nxtL ?_
          refine WA.done (k := ?_)
          clear KC
          refine WX.seqN ?_
          refine WC.ret ?_
          refine WX.ret (rs := [.tmp 4, .cell 5 33, .tmp 6]) [.pointer (some ⟨jb13, 0, none⟩), .agg #[.string ⟨(RdX.t X).toArray⟩, .slice A79 (List.length (ScX.xs Y)) c80], .int .i64 0] (.tuple #[.pointer (some ⟨jb13, 0, none⟩), .agg #[.string ⟨(RdX.t X).toArray⟩, .slice A79 (List.length (ScX.xs Y)) c80], .int .i64 0]) ⟨(by kernel_rfl), ⟨_, (by kernel_rfl), ldN (T := 33) (i := 0) (m := 2) (l := [.string ⟨(RdX.t X).toArray⟩, .slice A79 (List.length (ScX.xs Y)) c80]) hb146⟩, (by kernel_rfl), trivial⟩ (k := ?_)
          exact ⟨_, _, _, _, rfl, ⟨_, _, _, hd84, hb136, hb81, hb50, n41, n42, n43, fun i => Iff.rfl⟩, ho82, ol87, (fun i hi h => h.elim (n85 i hi) (fun h => h.elim (fun e => (ho82.offT hb136 (by decide)) ((show i = jb13 from e) ▸ hi)) (fun h => h.elim (fun e => (ho82.offT hb81 (by decide)) (e ▸ hi)) (fun e => (ho82.offT hb50 (by decide)) (e ▸ hi))))), (fun i h => h.elim (fun h => lk44 i h) (fun h => .inr (h.elim (fun e => e ▸ z23) (fun h => h.elim (fun e => e ▸ z26) (fun e => e ▸ z29))))), K⟩
def opF (k : Int) (d : GDisk) : Int × GDisk :=
  if ¬ d.flushE = 0 then (d.flushE, d.flushD) else if ¬ (rdF 0 k d.flushD).bad = 0 then ((rdF 0 k d.flushD).bad, (rdF 0 k d.flushD).d) else if (rdF 0 k d.flushD).e = 0 then (12, (rdF 0 k d.flushD).d)
  else if ¬ (scF (2 * k) ((d.secs.length : Int) - 2 * k) (rdF 0 k d.flushD).e (rdF 0 k d.flushD).d).bad = 0 then ((scF (2 * k) ((d.secs.length : Int) - 2 * k) (rdF 0 k d.flushD).e (rdF 0 k d.flushD).d).bad, (scF (2 * k) ((d.secs.length : Int) - 2 * k) (rdF 0 k d.flushD).e (rdF 0 k d.flushD).d).d) else (0, d)
set_option maxRecDepth 100000 in
set_option maxHeartbeats 4000000 in
theorem jnOpen_no {S : Nat → Prop} {dk : Nat} {d : GDisk} {k : Int} {X : RdX} {Y : ScX} {R : Int × GDisk} {w : World} (hd : DiskAt S dk d w) (hc : 1 ≤ k ∧ k ≤ 64 ∧ 2 * k < (d.secs.length : Int)) (hX : rdF 0 k d.flushD = X) (hY : scF (2 * k) ((d.secs.length : Int) - 2 * k) X.e X.d = Y) (hXl : X.e < 18446744073709551616) (hRf : opF k d = R) (hR : ¬ R.1 = 0) : Calls Tryz.prog 13 #[.pointer (some ⟨dk, 0, none⟩), .int .i64 k] w fun e w' => e = .returned (.tuple #[.pointer none, .agg #[.string ⟨#[]⟩, .slice none 0 0], .int .i64 R.1]) ∧ DkPost S dk R.2 w w' := by
  have K : Keeps S w w := Keeps.refl _ w
  have lk0 : ∀ k, S k → S k ∨ w.heap.size ≤ k := fun k h => .inl h
  have dl_ := hd.ok.2.2.2.2.1
  obtain ⟨m1, m2, m3⟩ := hc
  refine Calls.start Tryz.func13 rfl (by kernel_rfl) ?_
  refine WC.seq ?_
  refine WC.region ?_
  refine WL.op (d := 4) (.pointer none) (k := ?_)
  refine WL.new (d := 5) (T := 33) #[.string ⟨#[]⟩, .slice none 0 0] (k := fun b1 w2 g3 hb4 k5 => ?_)
  have z6 := Nat.le_trans K.size g3
  have n7 : ¬ S b1 := fun h => absurd (hd.lt _ h) (Nat.not_lt.2 g3)
  replace hd := hd.adds k5
  replace K := K.trans (k5.any _)
  refine WL.op (d := 6) (.int .i64 0) (k := ?_)
  refine WL.nil ?_
  refine WX.seqN ?_
  refine WC.seq ?_
  refine WC.region ?_
  refine WL.op (d := 12) (.pointer (some ⟨dk, 0, none⟩)) (k := ?_)
  refine WL.op (d := 13) (.int .i64 k) (k := ?_)
  refine WL.callG (d := 14) (f := 22) (args := #[.pointer (some ⟨dk, 0, none⟩), .int .i64 k]) (jnMade_ok (k := k) hd (by omega)) (k := fun e_ w8 h_ => ?_)
  obtain ⟨jb9, lb10, sb11, rfl, g12, g13, g14, hj15, hl16, hs17, k18⟩ := h_
  refine ⟨_, rfl, ?_⟩
  have z19 := Nat.le_trans K.size g12
  have n20 : ¬ S jb9 := fun h => absurd (hd.lt _ h) (Nat.not_lt.2 g12)
  have n21 : b1 ≠ jb9 := Nat.ne_of_lt (Nat.lt_of_lt_of_le (lt_of_heap hb4) g12)
  have z22 := Nat.le_trans K.size g13
  have n23 : ¬ S lb10 := fun h => absurd (hd.lt _ h) (Nat.not_lt.2 g13)
  have n24 : b1 ≠ lb10 := Nat.ne_of_lt (Nat.lt_of_lt_of_le (lt_of_heap hb4) g13)
  have z25 := Nat.le_trans K.size g14
  have n26 : ¬ S sb11 := fun h => absurd (hd.lt _ h) (Nat.not_lt.2 g14)
  have n27 : b1 ≠ sb11 := Nat.ne_of_lt (Nat.lt_of_lt_of_le (lt_of_heap hb4) g14)
  replace hd := hd.adds k18
  replace hb4 := k18.heap hb4 id
  replace K := K.trans (k18.any _)
  have ne28 : jb9 ≠ lb10 := blk_ne hj15 hl16 (by decide)
  have ne29 : jb9 ≠ sb11 := blk_ne hj15 hs17 (by decide)
  have ne30 : lb10 ≠ sb11 := blk_ne hl16 hs17 (by decide)
  refine WL.op (d := 7) (.pointer (some ⟨jb9, 0, none⟩)) (k := ?_)
  refine WL.nil ?_
  refine WX.seqN ?_
  refine WC.seq ?_
  refine WC.seq ?_
  refine WC.region ?_
  refine WL.op (d := 15) (.pointer (some ⟨jb9, 0, none⟩)) (k := ?_)
  refine WL.op (d := 16) (.bool false) (k := ?_)
  refine WL.nil ?_
  refine WX.seqN ?_
  refine WC.condF (k := ?_)
  refine WC.skip ?_
  refine WX.seqN ?_
  refine WC.seq ?_
  refine WC.region ?_
  refine WL.op (d := 18) (.pointer (some ⟨dk, 0, none⟩)) (k := ?_)
  refine WL.callG (d := 19) (f := 28) (args := #[.pointer (some ⟨dk, 0, none⟩)]) (dFlush_c hd) (k := fun e_ w31 h_ => ?_)
  obtain ⟨rfl, S34, hd32, lk35, k33⟩ := h_
  refine ⟨_, rfl, ?_⟩
  have n36 : ¬ S34 b1 := fun h => (lk35 _ h).elim n7 (fun h2 => absurd (lt_of_heap hb4) (Nat.not_lt.2 h2))
  have n37 : ¬ S34 jb9 := fun h => (lk35 _ h).elim n20 (fun h2 => absurd (lt_of_heap hj15) (Nat.not_lt.2 h2))
  have n38 : ¬ S34 lb10 := fun h => (lk35 _ h).elim n23 (fun h2 => absurd (lt_of_heap hl16) (Nat.not_lt.2 h2))
  have n39 : ¬ S34 sb11 := fun h => (lk35 _ h).elim n26 (fun h2 => absurd (lt_of_heap hs17) (Nat.not_lt.2 h2))
  have lk40 := lk_step lk0 lk35 K
  replace hb4 := k33.heap hb4 n7
  replace hj15 := k33.heap hj15 n20
  replace hl16 := k33.heap hl16 n23
  replace hs17 := k33.heap hs17 n26
  replace K := K.trans' k33 (fun i hi e => (lk0 i e).elim (fun h => h) (fun h => absurd hi (Nat.not_lt.2 h)))
  clear hd
  refine WL.op (d := 8) (.int .i64 (GDisk.flushE d)) (k := ?_)
  refine WL.nil ?_
  refine WX.seqN ?_
  refine WC.seq ?_
  refine WC.seq ?_
  refine WC.region ?_
  refine WL.op (d := 20) (.int .i64 (GDisk.flushE d)) (k := ?_)
  refine WL.op (d := 21) (.bool ((GDisk.flushE d) != 0)) (k := ?_)
  refine WL.nil ?_
  refine WX.seqN ?_
  refine WC.cond (b := (GDisk.flushE d) != 0) (ht := fun h41 => ?_) (hf := fun h41 => ?_)
  · have ph41 := bne_iff_ne.1 h41
    refine WC.seq ?_
    refine WC.region ?_
    refine WL.op (d := 22) (.agg #[.string ⟨#[]⟩, .slice none 0 0]) (k := ?_)
    refine WL.op (d := 23) (.int .i64 (GDisk.flushE d)) (k := ?_)
    refine WL.op (d := 4) (.pointer none) (k := ?_)
    refine WL.store (v := .agg #[.string ⟨#[]⟩, .slice none 0 0]) (i := 0) (cs' := #[.string ⟨#[]⟩, .slice none 0 0]) hb4 (k := fun w42 hb43 k44 => ?_)
    replace hd32 := hd32.keeps k44 (fun i hi e => n36 (e ▸ hi))
    replace hj15 := k44.heap hj15 (Ne.symm n21)
    replace hl16 := k44.heap hl16 (Ne.symm n24)
    replace hs17 := k44.heap hs17 (Ne.symm n27)
    replace K := K.trans' k44 (fun i hi e => absurd (e ▸ hi) (Nat.not_lt.2 z6))
    clear hb4
    refine WL.op (d := 6) (.int .i64 (GDisk.flushE d)) (k := ?_)
    refine WL.nil ?_
    refine WX.seqN ?_
    refine WC.ret ?_
    refine WX.seqR ?_
    refine WX.ret (rs := [.tmp 4, .cell 5 33, .tmp 6]) [.pointer none, .agg #[.string ⟨#[]⟩, .slice none 0 0], .int .i64 (GDisk.flushE d)] (.tuple #[.pointer none, .agg #[.string ⟨#[]⟩, .slice none 0 0], .int .i64 (GDisk.flushE d)]) ⟨(by kernel_rfl), ⟨_, (by kernel_rfl), ldN (T := 33) (i := 0) (m := 2) (l := [.string ⟨#[]⟩, .slice none 0 0]) hb43⟩, (by kernel_rfl), trivial⟩ (k := ?_)
    have hq_ : R = (GDisk.flushE d, GDisk.flushD d) := by rw [← hRf]; unfold opF; rw [if_pos ph41]
    rw [hq_]
    exact ⟨rfl, DkPost.of hd32 lk40 K⟩
  · have ph41 := of_bne_false h41
    refine WC.skip ?_
    refine WX.seqN ?_
    refine WC.seq ?_
    refine WC.region ?_
    refine WL.op (d := 25) (.pointer (some ⟨jb9, 0, none⟩)) (k := ?_)
    refine WL.op (d := 26) (.pointer (some ⟨jb9, 0, none⟩)) (k := ?_)
    refine WL.op (d := 27) (.pointer (some ⟨jb9, 1, none⟩)) (k := ?_)
    refine WL.load (v := .pointer (some ⟨sb11, 0, none⟩)) (ld1 (T := 60) (i := 1) hj15) (k := ?_)
    refine WL.callG (d := 29) (f := 23) (args := #[.pointer (some ⟨sb11, 0, none⟩)]) (svRead_all hX hs17 hd32 n39 (by omega) (by omega) (by omega) (by omega)) (k := fun e_ w45 h_ => ?_)
    obtain ⟨rfl, hb46, hd47, k48⟩ := h_
    refine ⟨_, rfl, ?_⟩
    replace K := K.trans' k48 (fun i hi e => e.elim (fun e => absurd (e ▸ hi) (Nat.not_lt.2 z25)) (fun e => (lk40 i e).elim (fun h => h) (fun h => absurd hi (Nat.not_lt.2 h))))
    replace hb4 := k48.heap hb4 (not_or.2 ⟨n27, n36⟩)
    replace hj15 := k48.heap hj15 (not_or.2 ⟨ne29, n37⟩)
    replace hl16 := k48.heap hl16 (not_or.2 ⟨ne30, n38⟩)
    clear hs17 hd32
    refine WL.op (d := 24) (.tuple #[.agg #[.int .u64 ((RdX.e X : Nat) : Int), .string ⟨(RdX.t X).toArray⟩], .bool (decide (¬ RdX.e X = 0)), .int .i64 (RdX.bad X)]) (k := ?_)
    refine WL.op (d := 30) (.agg #[.int .u64 ((RdX.e X : Nat) : Int), .string ⟨(RdX.t X).toArray⟩]) (k := ?_)
    refine WL.op (d := 31) (.bool (decide (¬ RdX.e X = 0))) (k := ?_)
    refine WL.op (d := 32) (.int .i64 (RdX.bad X)) (k := ?_)
    refine WL.new (d := 9) (T := 55) #[.int .u64 0, .string ⟨#[]⟩] (k := fun b49 w50 g51 hb52 k53 => ?_)
    have z54 := Nat.le_trans K.size g51
    have n55 : ¬ S34 b49 := fun h => absurd (hd47.lt _ h) (Nat.not_lt.2 g51)
    have n56 : b1 ≠ b49 := Nat.ne_of_lt (Nat.lt_of_lt_of_le (lt_of_heap hb4) g51)
    have n57 : jb9 ≠ b49 := Nat.ne_of_lt (Nat.lt_of_lt_of_le (lt_of_heap hj15) g51)
    have n58 : lb10 ≠ b49 := Nat.ne_of_lt (Nat.lt_of_lt_of_le (lt_of_heap hl16) g51)
    have n59 : sb11 ≠ b49 := Nat.ne_of_lt (Nat.lt_of_lt_of_le (lt_of_heap hb46) g51)
    replace hd47 := hd47.adds k53
    replace hb4 := k53.heap hb4 id
    replace hj15 := k53.heap hj15 id
    replace hl16 := k53.heap hl16 id
    replace hb46 := k53.heap hb46 id
    replace K := K.trans (k53.any _)
    refine WL.store (v := .agg #[.int .u64 ((RdX.e X : Nat) : Int), .string ⟨(RdX.t X).toArray⟩]) (i := 0) (cs' := #[.int .u64 ((RdX.e X : Nat) : Int), .string ⟨(RdX.t X).toArray⟩]) hb52 (k := fun w60 hb61 k62 => ?_)
    replace hd47 := hd47.keeps k62 (fun i hi e => n55 (e ▸ hi))
    replace hb4 := k62.heap hb4 n56
    replace hj15 := k62.heap hj15 n57
    replace hl16 := k62.heap hl16 n58
    replace hb46 := k62.heap hb46 n59
    replace K := K.trans' k62 (fun i hi e => absurd (e ▸ hi) (Nat.not_lt.2 z54))
    clear hb52
    refine WL.op (d := 10) (.bool (decide (¬ RdX.e X = 0))) (k := ?_)
    refine WL.op (d := 8) (.int .i64 (RdX.bad X)) (k := ?_)
    refine WL.nil ?_
    refine WX.seqN ?_
    refine WC.seq ?_
    refine WC.block ?_
    refine WC.seq ?_
    refine WC.region ?_
    refine WL.op (d := 34) (.int .i64 (RdX.bad X)) (k := ?_)
    refine WL.op (d := 35) (.bool ((RdX.bad X) != 0)) (k := ?_)
    refine WL.op (d := 33) (.bool ((RdX.bad X) != 0)) (k := ?_)
    refine WL.nil ?_
    refine WX.seqN ?_
    refine WC.cond (b := (RdX.bad X) != 0) (ht := fun h63 => ?_) (hf := fun h63 => ?_)
    · have ph63 := bne_iff_ne.1 h63
      refine WC.seq ?_
      refine WC.region ?_
      refine WL.op (d := 36) (.agg #[.string ⟨#[]⟩, .slice none 0 0]) (k := ?_)
      refine WL.op (d := 37) (.int .i64 (RdX.bad X)) (k := ?_)
      refine WL.op (d := 4) (.pointer none) (k := ?_)
      refine WL.store (v := .agg #[.string ⟨#[]⟩, .slice none 0 0]) (i := 0) (cs' := #[.string ⟨#[]⟩, .slice none 0 0]) hb4 (k := fun w64 hb65 k66 => ?_)
      replace hd47 := hd47.keeps k66 (fun i hi e => n36 (e ▸ hi))
      replace hj15 := k66.heap hj15 (Ne.symm n21)
      replace hl16 := k66.heap hl16 (Ne.symm n24)
      replace hb46 := k66.heap hb46 (Ne.symm n27)
      replace hb61 := k66.heap hb61 (Ne.symm n56)
      replace K := K.trans' k66 (fun i hi e => absurd (e ▸ hi) (Nat.not_lt.2 z6))
      clear hb4
      refine WL.op (d := 6) (.int .i64 (RdX.bad X)) (k := ?_)
      refine WL.nil ?_
      refine WX.seqN ?_
      refine WC.ret ?_
      refine WX.blockR ?_
      refine WX.seqR ?_
      refine WX.ret (rs := [.tmp 4, .cell 5 33, .tmp 6]) [.pointer none, .agg #[.string ⟨#[]⟩, .slice none 0 0], .int .i64 (RdX.bad X)] (.tuple #[.pointer none, .agg #[.string ⟨#[]⟩, .slice none 0 0], .int .i64 (RdX.bad X)]) ⟨(by kernel_rfl), ⟨_, (by kernel_rfl), ldN (T := 33) (i := 0) (m := 2) (l := [.string ⟨#[]⟩, .slice none 0 0]) hb65⟩, (by kernel_rfl), trivial⟩ (k := ?_)
      have hq_ : R = (RdX.bad X, RdX.d X) := by rw [← hRf]; unfold opF; rw [if_neg (fun h_ => h_ ph41), hX, if_pos ph63]
      rw [hq_]
      exact ⟨rfl, DkPost.of hd47 lk40 K⟩
    · have ph63 := of_bne_false h63
      refine WC.seq ?_
      refine WC.region ?_
      refine WL.op (d := 39) (.bool (decide (¬ RdX.e X = 0))) (k := ?_)
      refine WL.op (d := 40) (.bool (!(decide (¬ RdX.e X = 0)))) (k := ?_)
      refine WL.op (d := 38) (.bool (!(decide (¬ RdX.e X = 0)))) (k := ?_)
      refine WL.nil ?_
      refine WX.seqN ?_
      refine WC.cond (b := !(decide (¬ RdX.e X = 0))) (ht := fun h67 => ?_) (hf := fun h67 => ?_)
      · have h68 : (decide (¬ RdX.e X = 0)) = false := Bool.not_inj (y := false) h67
        have ph68 := of_decide_eq_false h68
        refine WC.seq ?_
        refine WC.region ?_
        refine WL.op (d := 41) (.agg #[.string ⟨#[]⟩, .slice none 0 0]) (k := ?_)
        refine WL.op (d := 4) (.pointer none) (k := ?_)
        refine WL.store (v := .agg #[.string ⟨#[]⟩, .slice none 0 0]) (i := 0) (cs' := #[.string ⟨#[]⟩, .slice none 0 0]) hb4 (k := fun w69 hb70 k71 => ?_)
        replace hd47 := hd47.keeps k71 (fun i hi e => n36 (e ▸ hi))
        replace hj15 := k71.heap hj15 (Ne.symm n21)
        replace hl16 := k71.heap hl16 (Ne.symm n24)
        replace hb46 := k71.heap hb46 (Ne.symm n27)
        replace hb61 := k71.heap hb61 (Ne.symm n56)
        replace K := K.trans' k71 (fun i hi e => absurd (e ▸ hi) (Nat.not_lt.2 z6))
        clear hb4
        refine WL.op (d := 6) (.int .i64 12) (k := ?_)
        refine WL.nil ?_
        refine WX.seqN ?_
        refine WC.ret ?_
        refine WX.blockR ?_
        refine WX.seqR ?_
        refine WX.ret (rs := [.tmp 4, .cell 5 33, .tmp 6]) [.pointer none, .agg #[.string ⟨#[]⟩, .slice none 0 0], .int .i64 12] (.tuple #[.pointer none, .agg #[.string ⟨#[]⟩, .slice none 0 0], .int .i64 12]) ⟨(by kernel_rfl), ⟨_, (by kernel_rfl), ldN (T := 33) (i := 0) (m := 2) (l := [.string ⟨#[]⟩, .slice none 0 0]) hb70⟩, (by kernel_rfl), trivial⟩ (k := ?_)
        have hq_ : R = (12, RdX.d X) := by rw [← hRf]; unfold opF; rw [if_neg (fun h_ => h_ ph41), hX, if_neg (fun h_ => h_ ph63), if_pos (Classical.not_not.1 ph68)]
        rw [hq_]
        exact ⟨rfl, DkPost.of hd47 lk40 K⟩
      · have h72 : (decide (¬ RdX.e X = 0)) = true := Bool.not_inj (y := true) h67
        have ph72 := of_decide_eq_true h72
        refine WC.skip ?_
        refine WX.blockN ?_
        refine WX.seqN ?_
        refine WC.seq ?_
        refine WC.mixed (fun _ => False) 7 (k := fun w73 k74 => ?_)
        replace hd47 := hd47.adds k74
        replace hb4 := k74.heap hb4 id
        replace hj15 := k74.heap hj15 id
        replace hl16 := k74.heap hl16 id
        replace hb46 := k74.heap hb46 id
        replace hb61 := k74.heap hb61 id
        replace K := K.trans (k74.any _)
        have KC := Keeps.refl (fun _ => False) w73
        have bh75 := hb4
        have bh76 := hj15
        have bh77 := hl16
        have bh78 := hb46
        have bh79 := hb61
        have Kb := K
        refine WA.quietT 0 (d := 43) (.pointer (some ⟨jb9, 0, none⟩)) KC (hi := rfl) (k := ?_)
        refine WA.quietT 1 (d := 44) (.pointer (some ⟨jb9, 0, none⟩)) KC (hi := rfl) (k := ?_)
        refine WA.quietT 2 (d := 45) (.pointer (some ⟨jb9, 0, none⟩)) KC (hi := rfl) (k := ?_)
        refine WA.quietT 3 (d := 46) (.pointer (some ⟨jb9, 0, none⟩)) KC (hi := rfl) (k := ?_)
        refine WA.quietRT 4 (d := 47) (.pointer (some ⟨lb10, 0, none⟩)) KC (exec_load (fun w_ k_ => ld1 (T := 57) (i := 0) (k_.heap bh76 id))) (hi := rfl) (k := ?_)
        refine WA.quietT 5 (d := 48) (.pointer (some ⟨b49, 0, none⟩)) KC (hi := rfl) (k := ?_)
        refine WA.quietRT 6 (d := 49) (.int .u64 ((RdX.e X : Nat) : Int)) KC (exec_load (fun w_ k_ => ld1 (T := 41) (i := 0) (k_.heap bh79 id))) (hi := rfl) (k := ?_)
        refine WA.step 7 (hi := rfl) (k := ?_)
        refine WL.callG (d := 50) (f := 29) (args := #[.pointer (some ⟨lb10, 0, none⟩), .int .u64 ((RdX.e X : Nat) : Int)]) (wlScan_all hY hl16 hd47 n38 (by omega) (by omega) (by omega) (by omega) (by omega)) (k := fun e_ w80 h_ => ?_)
        obtain ⟨A81, c82, rfl, hb83, ho84, ol85, hd86, n87, k88⟩ := h_
        refine ⟨_, rfl, ?_⟩
        have ol89 := fun i h => Nat.le_trans K.size (ol85 i h)
        replace K := K.trans' k88 (fun i hi e => e.elim (fun e => absurd (e ▸ hi) (Nat.not_lt.2 z22)) (fun e => (lk40 i e).elim (fun h => h) (fun h => absurd hi (Nat.not_lt.2 h))))
        replace hb4 := k88.heap hb4 (not_or.2 ⟨n24, n36⟩)
        replace hj15 := k88.heap hj15 (not_or.2 ⟨ne28, n37⟩)
        replace hb46 := k88.heap hb46 (not_or.2 ⟨Ne.symm ne30, n39⟩)
        replace hb61 := k88.heap hb61 (not_or.2 ⟨Ne.symm n58, n55⟩)
        clear hl16 hd47 ol85
        refine WL.nil ?_
        refine WX.nxtL ?_
        refine WA.step 8 (hi := rfl) (k := ?_)
        refine WL.op (d := 42) (.tuple #[.slice A81 (List.length (ScX.xs Y)) c82, .int .i64 (ScX.bad Y)]) (k := ?_)
        refine WL.nil ?_
        refine WX.nxtB (k := ?_)
        refine WA.step2 9 10 (hi := rfl) (hj := rfl) (k1 := ?_) (k2 := ?_)
        · refine WL.op (d := 51) (.slice A81 (List.length (ScX.xs Y)) c82) (k := ?_)
          refine WL.nil ?_
          refine WX.nxtB (k := ?_)
          refine WA.step2 10 11 (hi := rfl) (hj := rfl) (k1 := ?_) (k2 := ?_)
          · refine WL.op (d := 52) (.int .i64 (ScX.bad Y)) (k := ?_)
            refine WL.nil ?_
            refine WX.nxtB (k := ?_)
            refine WA.step 11 (hi := rfl) (k := ?_)
            refine WL.op (d := 11) (.slice A81 (List.length (ScX.xs Y)) c82) (k := ?_)
            refine WL.nil ?_
            refine WX.nxtB (k := ?_)
            refine WA.step 12 (hi := rfl) (k := ?_)
            refine WL.op (d := 8) (.int .i64 (ScX.bad Y)) (k := ?_)
            refine WL.nil ?_
            refine WX.nxtB (k := ?_)
            refine WA.done (k := ?_)
            clear KC
            refine WX.seqN ?_
            refine WC.seq ?_
            refine WC.seq ?_
            refine WC.region ?_
            refine WL.op (d := 53) (.int .i64 (ScX.bad Y)) (k := ?_)
            refine WL.op (d := 54) (.bool ((ScX.bad Y) != 0)) (k := ?_)
            refine WL.nil ?_
            refine WX.seqN ?_
            refine WC.cond (b := (ScX.bad Y) != 0) (ht := fun h90 => ?_) (hf := fun h90 => ?_)
            · have ph90 := bne_iff_ne.1 h90
              refine WC.seq ?_
              refine WC.region ?_
              refine WL.op (d := 55) (.agg #[.string ⟨#[]⟩, .slice none 0 0]) (k := ?_)
              refine WL.op (d := 56) (.int .i64 (ScX.bad Y)) (k := ?_)
              refine WL.op (d := 4) (.pointer none) (k := ?_)
              refine WL.store (v := .agg #[.string ⟨#[]⟩, .slice none 0 0]) (i := 0) (cs' := #[.string ⟨#[]⟩, .slice none 0 0]) hb4 (k := fun w91 hb92 k93 => ?_)
              replace hd86 := hd86.keeps k93 (fun i hi e => n36 (e ▸ hi))
              replace hj15 := k93.heap hj15 (Ne.symm n21)
              replace hb83 := k93.heap hb83 (Ne.symm n24)
              replace hb46 := k93.heap hb46 (Ne.symm n27)
              replace hb61 := k93.heap hb61 (Ne.symm n56)
              replace ho84 := ho84.keeps k93 (fun i hi e => (ho84.offT hb4 (by decide)) (e ▸ hi))
              replace K := K.trans' k93 (fun i hi e => absurd (e ▸ hi) (Nat.not_lt.2 z6))
              clear hb4
              refine WL.op (d := 6) (.int .i64 (ScX.bad Y)) (k := ?_)
              refine WL.nil ?_
              refine WX.seqN ?_
              refine WC.ret ?_
              refine WX.seqR ?_
              refine WX.ret (rs := [.tmp 4, .cell 5 33, .tmp 6]) [.pointer none, .agg #[.string ⟨#[]⟩, .slice none 0 0], .int .i64 (ScX.bad Y)] (.tuple #[.pointer none, .agg #[.string ⟨#[]⟩, .slice none 0 0], .int .i64 (ScX.bad Y)]) ⟨(by kernel_rfl), ⟨_, (by kernel_rfl), ldN (T := 33) (i := 0) (m := 2) (l := [.string ⟨#[]⟩, .slice none 0 0]) hb92⟩, (by kernel_rfl), trivial⟩ (k := ?_)
              have hq_ : R = (ScX.bad Y, ScX.d Y) := by rw [← hRf]; unfold opF; rw [if_neg (fun h_ => h_ ph41), hX, if_neg (fun h_ => h_ ph63), if_neg ph72, hY, if_pos ph90]
              rw [hq_]
              exact ⟨rfl, DkPost.of hd86 lk40 K⟩
            · have ph90 := of_bne_false h90
              refine WC.skip ?_
              refine WX.seqN ?_
              refine WC.seq ?_
              refine WC.region ?_
              refine WL.op (d := 57) (.pointer (some ⟨jb9, 0, none⟩)) (k := ?_)
              refine WL.op (d := 58) (.pointer (some ⟨jb9, 0, none⟩)) (k := ?_)
              refine WL.op (d := 59) (.pointer (some ⟨b49, 0, none⟩)) (k := ?_)
              refine WL.load (v := .int .u64 ((RdX.e X : Nat) : Int)) (ld1 (T := 41) (i := 0) hb61) (k := ?_)
              refine WL.op (d := 61) (.pointer (some ⟨jb9, 0, none⟩)) (k := ?_)
              refine WL.op (d := 62) (.pointer (some ⟨jb9, 3, none⟩)) (k := ?_)
              refine WL.store (v := .int .u64 ((RdX.e X : Nat) : Int)) (i := 3) (cs' := #[.pointer (some ⟨lb10, 0, none⟩), .pointer (some ⟨sb11, 0, none⟩), .bool false, .int .u64 ((RdX.e X : Nat) : Int)]) hj15 (k := fun w94 hb95 k96 => ?_)
              replace hd86 := hd86.keeps k96 (fun i hi e => n37 (e ▸ hi))
              replace hb4 := k96.heap hb4 n21
              replace hb83 := k96.heap hb83 (Ne.symm ne28)
              replace hb46 := k96.heap hb46 (Ne.symm ne29)
              replace hb61 := k96.heap hb61 (Ne.symm n57)
              replace ho84 := ho84.keeps k96 (fun i hi e => (ho84.offT hj15 (by decide)) (e ▸ hi))
              replace K := K.trans' k96 (fun i hi e => absurd (e ▸ hi) (Nat.not_lt.2 z19))
              clear hj15
              refine WL.op (d := 63) (.pointer (some ⟨jb9, 0, none⟩)) (k := ?_)
              refine WL.op (d := 64) (.pointer (some ⟨jb9, 2, none⟩)) (k := ?_)
              refine WL.store (v := .bool true) (i := 2) (cs' := #[.pointer (some ⟨lb10, 0, none⟩), .pointer (some ⟨sb11, 0, none⟩), .bool true, .int .u64 ((RdX.e X : Nat) : Int)]) hb95 (k := fun w97 hb98 k99 => ?_)
              replace hd86 := hd86.keeps k99 (fun i hi e => n37 (e ▸ hi))
              replace hb4 := k99.heap hb4 n21
              replace hb83 := k99.heap hb83 (Ne.symm ne28)
              replace hb46 := k99.heap hb46 (Ne.symm ne29)
              replace hb61 := k99.heap hb61 (Ne.symm n57)
              replace ho84 := ho84.keeps k99 (fun i hi e => (ho84.offT hb95 (by decide)) (e ▸ hi))
              replace K := K.trans' k99 (fun i hi e => absurd (e ▸ hi) (Nat.not_lt.2 z19))
              clear hb95
              refine WL.nil ?_
              refine WX.seqN ?_
              refine WC.seq ?_
              refine WC.mixed (fun k => k = b1) 7 (k := fun w100 k101 => ?_)
              replace hd86 := hd86.adds k101
              replace hb4 := k101.heap hb4 id
              replace hb98 := k101.heap hb98 id
              replace hb83 := k101.heap hb83 id
              replace hb46 := k101.heap hb46 id
              replace hb61 := k101.heap hb61 id
              replace ho84 := ho84.adds k101
              replace K := K.trans (k101.any _)
              have KC := Keeps.refl (fun k => k = b1) w100
              have bh102 := hb4
              have bh103 := hb98
              have bh104 := hb83
              have bh105 := hb46
              have bh106 := hb61
              have Kb := K
              refine WA.quiet 0 (d := 65) (.pointer (some ⟨jb9, 0, none⟩)) KC (hi := rfl) (k := ?_)
              refine WA.quiet 1 (d := 66) (.pointer (some ⟨b49, 1, none⟩)) KC (hi := rfl) (k := ?_)
              refine WA.quietR 2 (d := 67) (.string ⟨(RdX.t X).toArray⟩) KC (exec_load (fun w_ k_ => ld1 (T := 9) (i := 1) (k_.heap bh106 (Ne.symm n56)))) (hi := rfl) (k := ?_)
              refine WA.quiet 3 (d := 68) (.slice A81 (List.length (ScX.xs Y)) c82) KC (hi := rfl) (k := ?_)
              refine WA.quiet 4 (d := 69) (.agg #[.string ⟨(RdX.t X).toArray⟩, .slice A81 (List.length (ScX.xs Y)) c82]) KC (hi := rfl) (k := ?_)
              refine WA.quiet 5 (d := 4) (.pointer (some ⟨jb9, 0, none⟩)) KC (hi := rfl) (k := ?_)
              refine WA.step 6 (hi := rfl) (k := ?_)
              refine WL.store (v := .agg #[.string ⟨(RdX.t X).toArray⟩, .slice A81 (List.length (ScX.xs Y)) c82]) (i := 0) (cs' := #[.string ⟨(RdX.t X).toArray⟩, .slice A81 (List.length (ScX.xs Y)) c82]) hb4 (k := fun w107 hb108 k109 => ?_)
              replace hd86 := hd86.keeps k109 (fun i hi e => n36 (e ▸ hi))
              replace hb98 := k109.heap hb98 (Ne.symm n21)
              replace hb83 := k109.heap hb83 (Ne.symm n24)
              replace hb46 := k109.heap hb46 (Ne.symm n27)
              replace hb61 := k109.heap hb61 (Ne.symm n56)
              replace ho84 := ho84.keeps k109 (fun i hi e => (ho84.offT hb4 (by decide)) (e ▸ hi))
              replace K := K.trans' k109 (fun i hi e => absurd (e ▸ hi) (Nat.not_lt.2 z6))
              replace KC := KC.trans' k109 (fun i hi e => e)
              clear hb4
              refine WL.nil ?_
              refine WX.nxt KC ?_
              refine WA.step 7 (hi := rfl) (k := ?_)
              refine WL.op (d := 6) (.int .i64 0) (k := ?_)
              refine WL.nil ?_
              refine WX.nxtL ?_
              refine WA.done (k := ?_)
              clear KC
              refine WX.seqN ?_
              refine WC.ret ?_
              refine WX.ret (rs := [.tmp 4, .cell 5 33, .tmp 6]) [.pointer (some ⟨jb9, 0, none⟩), .agg #[.string ⟨(RdX.t X).toArray⟩, .slice A81 (List.length (ScX.xs Y)) c82], .int .i64 0] (.tuple #[.pointer (some ⟨jb9, 0, none⟩), .agg #[.string ⟨(RdX.t X).toArray⟩, .slice A81 (List.length (ScX.xs Y)) c82], .int .i64 0]) ⟨(by kernel_rfl), ⟨_, (by kernel_rfl), ldN (T := 33) (i := 0) (m := 2) (l := [.string ⟨(RdX.t X).toArray⟩, .slice A81 (List.length (ScX.xs Y)) c82]) hb108⟩, (by kernel_rfl), trivial⟩ (k := ?_)
              refine absurd ?_ hR
              rw [← hRf]; unfold opF; rw [if_neg (fun h_ => h_ ph41), hX, if_neg (fun h_ => h_ ph63), if_neg ph72, hY, if_neg (fun h_ => h_ ph90)]
          · refine WL.op (d := 11) (.slice A81 (List.length (ScX.xs Y)) c82) (k := ?_)
            refine WL.nil ?_
            refine WX.nxtB (k := ?_)
            refine WA.step 10 (hi := rfl) (k := ?_)
            refine WL.op (d := 52) (.int .i64 (ScX.bad Y)) (k := ?_)
            refine WL.nil ?_
            refine WX.nxtB (k := ?_)
            refine WA.step 12 (hi := rfl) (k := ?_)
            refine WL.op (d := 8) (.int .i64 (ScX.bad Y)) (k := ?_)
            refine WL.nil ?_
            refine WX.nxtB (k := ?_)
            refine WA.done (k := ?_)
            clear KC
            refine WX.seqN ?_
            refine WC.seq ?_
            refine WC.seq ?_
            refine WC.region ?_
            refine WL.op (d := 53) (.int .i64 (ScX.bad Y)) (k := ?_)
            refine WL.op (d := 54) (.bool ((ScX.bad Y) != 0)) (k := ?_)
            refine WL.nil ?_
            refine WX.seqN ?_
            refine WC.cond (b := (ScX.bad Y) != 0) (ht := fun h110 => ?_) (hf := fun h110 => ?_)
            · have ph110 := bne_iff_ne.1 h110
              refine WC.seq ?_
              refine WC.region ?_
              refine WL.op (d := 55) (.agg #[.string ⟨#[]⟩, .slice none 0 0]) (k := ?_)
              refine WL.op (d := 56) (.int .i64 (ScX.bad Y)) (k := ?_)
              refine WL.op (d := 4) (.pointer none) (k := ?_)
              refine WL.store (v := .agg #[.string ⟨#[]⟩, .slice none 0 0]) (i := 0) (cs' := #[.string ⟨#[]⟩, .slice none 0 0]) hb4 (k := fun w111 hb112 k113 => ?_)
              replace hd86 := hd86.keeps k113 (fun i hi e => n36 (e ▸ hi))
              replace hj15 := k113.heap hj15 (Ne.symm n21)
              replace hb83 := k113.heap hb83 (Ne.symm n24)
              replace hb46 := k113.heap hb46 (Ne.symm n27)
              replace hb61 := k113.heap hb61 (Ne.symm n56)
              replace ho84 := ho84.keeps k113 (fun i hi e => (ho84.offT hb4 (by decide)) (e ▸ hi))
              replace K := K.trans' k113 (fun i hi e => absurd (e ▸ hi) (Nat.not_lt.2 z6))
              clear hb4
              refine WL.op (d := 6) (.int .i64 (ScX.bad Y)) (k := ?_)
              refine WL.nil ?_
              refine WX.seqN ?_
              refine WC.ret ?_
              refine WX.seqR ?_
              refine WX.ret (rs := [.tmp 4, .cell 5 33, .tmp 6]) [.pointer none, .agg #[.string ⟨#[]⟩, .slice none 0 0], .int .i64 (ScX.bad Y)] (.tuple #[.pointer none, .agg #[.string ⟨#[]⟩, .slice none 0 0], .int .i64 (ScX.bad Y)]) ⟨(by kernel_rfl), ⟨_, (by kernel_rfl), ldN (T := 33) (i := 0) (m := 2) (l := [.string ⟨#[]⟩, .slice none 0 0]) hb112⟩, (by kernel_rfl), trivial⟩ (k := ?_)
              have hq_ : R = (ScX.bad Y, ScX.d Y) := by rw [← hRf]; unfold opF; rw [if_neg (fun h_ => h_ ph41), hX, if_neg (fun h_ => h_ ph63), if_neg ph72, hY, if_pos ph110]
              rw [hq_]
              exact ⟨rfl, DkPost.of hd86 lk40 K⟩
            · have ph110 := of_bne_false h110
              refine WC.skip ?_
              refine WX.seqN ?_
              refine WC.seq ?_
              refine WC.region ?_
              refine WL.op (d := 57) (.pointer (some ⟨jb9, 0, none⟩)) (k := ?_)
              refine WL.op (d := 58) (.pointer (some ⟨jb9, 0, none⟩)) (k := ?_)
              refine WL.op (d := 59) (.pointer (some ⟨b49, 0, none⟩)) (k := ?_)
              refine WL.load (v := .int .u64 ((RdX.e X : Nat) : Int)) (ld1 (T := 41) (i := 0) hb61) (k := ?_)
              refine WL.op (d := 61) (.pointer (some ⟨jb9, 0, none⟩)) (k := ?_)
              refine WL.op (d := 62) (.pointer (some ⟨jb9, 3, none⟩)) (k := ?_)
              refine WL.store (v := .int .u64 ((RdX.e X : Nat) : Int)) (i := 3) (cs' := #[.pointer (some ⟨lb10, 0, none⟩), .pointer (some ⟨sb11, 0, none⟩), .bool false, .int .u64 ((RdX.e X : Nat) : Int)]) hj15 (k := fun w114 hb115 k116 => ?_)
              replace hd86 := hd86.keeps k116 (fun i hi e => n37 (e ▸ hi))
              replace hb4 := k116.heap hb4 n21
              replace hb83 := k116.heap hb83 (Ne.symm ne28)
              replace hb46 := k116.heap hb46 (Ne.symm ne29)
              replace hb61 := k116.heap hb61 (Ne.symm n57)
              replace ho84 := ho84.keeps k116 (fun i hi e => (ho84.offT hj15 (by decide)) (e ▸ hi))
              replace K := K.trans' k116 (fun i hi e => absurd (e ▸ hi) (Nat.not_lt.2 z19))
              clear hj15
              refine WL.op (d := 63) (.pointer (some ⟨jb9, 0, none⟩)) (k := ?_)
              refine WL.op (d := 64) (.pointer (some ⟨jb9, 2, none⟩)) (k := ?_)
              refine WL.store (v := .bool true) (i := 2) (cs' := #[.pointer (some ⟨lb10, 0, none⟩), .pointer (some ⟨sb11, 0, none⟩), .bool true, .int .u64 ((RdX.e X : Nat) : Int)]) hb115 (k := fun w117 hb118 k119 => ?_)
              replace hd86 := hd86.keeps k119 (fun i hi e => n37 (e ▸ hi))
              replace hb4 := k119.heap hb4 n21
              replace hb83 := k119.heap hb83 (Ne.symm ne28)
              replace hb46 := k119.heap hb46 (Ne.symm ne29)
              replace hb61 := k119.heap hb61 (Ne.symm n57)
              replace ho84 := ho84.keeps k119 (fun i hi e => (ho84.offT hb115 (by decide)) (e ▸ hi))
              replace K := K.trans' k119 (fun i hi e => absurd (e ▸ hi) (Nat.not_lt.2 z19))
              clear hb115
              refine WL.nil ?_
              refine WX.seqN ?_
              refine WC.seq ?_
              refine WC.mixed (fun k => k = b1) 7 (k := fun w120 k121 => ?_)
              replace hd86 := hd86.adds k121
              replace hb4 := k121.heap hb4 id
              replace hb118 := k121.heap hb118 id
              replace hb83 := k121.heap hb83 id
              replace hb46 := k121.heap hb46 id
              replace hb61 := k121.heap hb61 id
              replace ho84 := ho84.adds k121
              replace K := K.trans (k121.any _)
              have KC := Keeps.refl (fun k => k = b1) w120
              have bh122 := hb4
              have bh123 := hb118
              have bh124 := hb83
              have bh125 := hb46
              have bh126 := hb61
              have Kb := K
              refine WA.quiet 0 (d := 65) (.pointer (some ⟨jb9, 0, none⟩)) KC (hi := rfl) (k := ?_)
              refine WA.quiet 1 (d := 66) (.pointer (some ⟨b49, 1, none⟩)) KC (hi := rfl) (k := ?_)
              refine WA.quietR 2 (d := 67) (.string ⟨(RdX.t X).toArray⟩) KC (exec_load (fun w_ k_ => ld1 (T := 9) (i := 1) (k_.heap bh126 (Ne.symm n56)))) (hi := rfl) (k := ?_)
              refine WA.quiet 3 (d := 68) (.slice A81 (List.length (ScX.xs Y)) c82) KC (hi := rfl) (k := ?_)
              refine WA.quiet 4 (d := 69) (.agg #[.string ⟨(RdX.t X).toArray⟩, .slice A81 (List.length (ScX.xs Y)) c82]) KC (hi := rfl) (k := ?_)
              refine WA.quiet 5 (d := 4) (.pointer (some ⟨jb9, 0, none⟩)) KC (hi := rfl) (k := ?_)
              refine WA.step 6 (hi := rfl) (k := ?_)
              refine WL.store (v := .agg #[.string ⟨(RdX.t X).toArray⟩, .slice A81 (List.length (ScX.xs Y)) c82]) (i := 0) (cs' := #[.string ⟨(RdX.t X).toArray⟩, .slice A81 (List.length (ScX.xs Y)) c82]) hb4 (k := fun w127 hb128 k129 => ?_)
              replace hd86 := hd86.keeps k129 (fun i hi e => n36 (e ▸ hi))
              replace hb118 := k129.heap hb118 (Ne.symm n21)
              replace hb83 := k129.heap hb83 (Ne.symm n24)
              replace hb46 := k129.heap hb46 (Ne.symm n27)
              replace hb61 := k129.heap hb61 (Ne.symm n56)
              replace ho84 := ho84.keeps k129 (fun i hi e => (ho84.offT hb4 (by decide)) (e ▸ hi))
              replace K := K.trans' k129 (fun i hi e => absurd (e ▸ hi) (Nat.not_lt.2 z6))
              replace KC := KC.trans' k129 (fun i hi e => e)
              clear hb4
              refine WL.nil ?_
              refine WX.nxt KC ?_
              refine WA.step 7 (hi := rfl) (k := ?_)
              refine WL.op (d := 6) (.int .i64 0) (k := ?_)
              refine WL.nil ?_
              refine WX.nxtL ?_
              refine WA.done (k := ?_)
              clear KC
              refine WX.seqN ?_
              refine WC.ret ?_
              refine WX.ret (rs := [.tmp 4, .cell 5 33, .tmp 6]) [.pointer (some ⟨jb9, 0, none⟩), .agg #[.string ⟨(RdX.t X).toArray⟩, .slice A81 (List.length (ScX.xs Y)) c82], .int .i64 0] (.tuple #[.pointer (some ⟨jb9, 0, none⟩), .agg #[.string ⟨(RdX.t X).toArray⟩, .slice A81 (List.length (ScX.xs Y)) c82], .int .i64 0]) ⟨(by kernel_rfl), ⟨_, (by kernel_rfl), ldN (T := 33) (i := 0) (m := 2) (l := [.string ⟨(RdX.t X).toArray⟩, .slice A81 (List.length (ScX.xs Y)) c82]) hb128⟩, (by kernel_rfl), trivial⟩ (k := ?_)
              refine absurd ?_ hR
              rw [← hRf]; unfold opF; rw [if_neg (fun h_ => h_ ph41), hX, if_neg (fun h_ => h_ ph63), if_neg ph72, hY, if_neg (fun h_ => h_ ph110)]
        · refine WL.op (d := 52) (.int .i64 (ScX.bad Y)) (k := ?_)
          refine WL.nil ?_
          refine WX.nxtB (k := ?_)
          refine WA.step 9 (hi := rfl) (k := ?_)
          refine WL.op (d := 51) (.slice A81 (List.length (ScX.xs Y)) c82) (k := ?_)
          refine WL.nil ?_
          refine WX.nxtB (k := ?_)
          refine WA.step 11 (hi := rfl) (k := ?_)
          refine WL.op (d := 11) (.slice A81 (List.length (ScX.xs Y)) c82) (k := ?_)
          refine WL.nil ?_
          refine WX.nxtB (k := ?_)
          refine WA.step 12 (hi := rfl) (k := ?_)
          refine WL.op (d := 8) (.int .i64 (ScX.bad Y)) (k := ?_)
          refine WL.nil ?_
          refine WX.nxtB (k := ?_)
          refine WA.done (k := ?_)
          clear KC
          refine WX.seqN ?_
          refine WC.seq ?_
          refine WC.seq ?_
          refine WC.region ?_
          refine WL.op (d := 53) (.int .i64 (ScX.bad Y)) (k := ?_)
          refine WL.op (d := 54) (.bool ((ScX.bad Y) != 0)) (k := ?_)
          refine WL.nil ?_
          refine WX.seqN ?_
          refine WC.cond (b := (ScX.bad Y) != 0) (ht := fun h130 => ?_) (hf := fun h130 => ?_)
          · have ph130 := bne_iff_ne.1 h130
            refine WC.seq ?_
            refine WC.region ?_
            refine WL.op (d := 55) (.agg #[.string ⟨#[]⟩, .slice none 0 0]) (k := ?_)
            refine WL.op (d := 56) (.int .i64 (ScX.bad Y)) (k := ?_)
            refine WL.op (d := 4) (.pointer none) (k := ?_)
            refine WL.store (v := .agg #[.string ⟨#[]⟩, .slice none 0 0]) (i := 0) (cs' := #[.string ⟨#[]⟩, .slice none 0 0]) hb4 (k := fun w131 hb132 k133 => ?_)
            replace hd86 := hd86.keeps k133 (fun i hi e => n36 (e ▸ hi))
            replace hj15 := k133.heap hj15 (Ne.symm n21)
            replace hb83 := k133.heap hb83 (Ne.symm n24)
            replace hb46 := k133.heap hb46 (Ne.symm n27)
            replace hb61 := k133.heap hb61 (Ne.symm n56)
            replace ho84 := ho84.keeps k133 (fun i hi e => (ho84.offT hb4 (by decide)) (e ▸ hi))
            replace K := K.trans' k133 (fun i hi e => absurd (e ▸ hi) (Nat.not_lt.2 z6))
            clear hb4
            refine WL.op (d := 6) (.int .i64 (ScX.bad Y)) (k := ?_)
            refine WL.nil ?_
            refine WX.seqN ?_
            refine WC.ret ?_
            refine WX.seqR ?_
            refine WX.ret (rs := [.tmp 4, .cell 5 33, .tmp 6]) [.pointer none, .agg #[.string ⟨#[]⟩, .slice none 0 0], .int .i64 (ScX.bad Y)] (.tuple #[.pointer none, .agg #[.string ⟨#[]⟩, .slice none 0 0], .int .i64 (ScX.bad Y)]) ⟨(by kernel_rfl), ⟨_, (by kernel_rfl), ldN (T := 33) (i := 0) (m := 2) (l := [.string ⟨#[]⟩, .slice none 0 0]) hb132⟩, (by kernel_rfl), trivial⟩ (k := ?_)
            have hq_ : R = (ScX.bad Y, ScX.d Y) := by rw [← hRf]; unfold opF; rw [if_neg (fun h_ => h_ ph41), hX, if_neg (fun h_ => h_ ph63), if_neg ph72, hY, if_pos ph130]
            rw [hq_]
            exact ⟨rfl, DkPost.of hd86 lk40 K⟩
          · have ph130 := of_bne_false h130
            refine WC.skip ?_
            refine WX.seqN ?_
            refine WC.seq ?_
            refine WC.region ?_
            refine WL.op (d := 57) (.pointer (some ⟨jb9, 0, none⟩)) (k := ?_)
            refine WL.op (d := 58) (.pointer (some ⟨jb9, 0, none⟩)) (k := ?_)
            refine WL.op (d := 59) (.pointer (some ⟨b49, 0, none⟩)) (k := ?_)
            refine WL.load (v := .int .u64 ((RdX.e X : Nat) : Int)) (ld1 (T := 41) (i := 0) hb61) (k := ?_)
            refine WL.op (d := 61) (.pointer (some ⟨jb9, 0, none⟩)) (k := ?_)
            refine WL.op (d := 62) (.pointer (some ⟨jb9, 3, none⟩)) (k := ?_)
            refine WL.store (v := .int .u64 ((RdX.e X : Nat) : Int)) (i := 3) (cs' := #[.pointer (some ⟨lb10, 0, none⟩), .pointer (some ⟨sb11, 0, none⟩), .bool false, .int .u64 ((RdX.e X : Nat) : Int)]) hj15 (k := fun w134 hb135 k136 => ?_)
            replace hd86 := hd86.keeps k136 (fun i hi e => n37 (e ▸ hi))
            replace hb4 := k136.heap hb4 n21
            replace hb83 := k136.heap hb83 (Ne.symm ne28)
            replace hb46 := k136.heap hb46 (Ne.symm ne29)
            replace hb61 := k136.heap hb61 (Ne.symm n57)
            replace ho84 := ho84.keeps k136 (fun i hi e => (ho84.offT hj15 (by decide)) (e ▸ hi))
            replace K := K.trans' k136 (fun i hi e => absurd (e ▸ hi) (Nat.not_lt.2 z19))
            clear hj15
            refine WL.op (d := 63) (.pointer (some ⟨jb9, 0, none⟩)) (k := ?_)
            refine WL.op (d := 64) (.pointer (some ⟨jb9, 2, none⟩)) (k := ?_)
            refine WL.store (v := .bool true) (i := 2) (cs' := #[.pointer (some ⟨lb10, 0, none⟩), .pointer (some ⟨sb11, 0, none⟩), .bool true, .int .u64 ((RdX.e X : Nat) : Int)]) hb135 (k := fun w137 hb138 k139 => ?_)
            replace hd86 := hd86.keeps k139 (fun i hi e => n37 (e ▸ hi))
            replace hb4 := k139.heap hb4 n21
            replace hb83 := k139.heap hb83 (Ne.symm ne28)
            replace hb46 := k139.heap hb46 (Ne.symm ne29)
            replace hb61 := k139.heap hb61 (Ne.symm n57)
            replace ho84 := ho84.keeps k139 (fun i hi e => (ho84.offT hb135 (by decide)) (e ▸ hi))
            replace K := K.trans' k139 (fun i hi e => absurd (e ▸ hi) (Nat.not_lt.2 z19))
            clear hb135
            refine WL.nil ?_
            refine WX.seqN ?_
            refine WC.seq ?_
            refine WC.mixed (fun k => k = b1) 7 (k := fun w140 k141 => ?_)
            replace hd86 := hd86.adds k141
            replace hb4 := k141.heap hb4 id
            replace hb138 := k141.heap hb138 id
            replace hb83 := k141.heap hb83 id
            replace hb46 := k141.heap hb46 id
            replace hb61 := k141.heap hb61 id
            replace ho84 := ho84.adds k141
            replace K := K.trans (k141.any _)
            have KC := Keeps.refl (fun k => k = b1) w140
            have bh142 := hb4
            have bh143 := hb138
            have bh144 := hb83
            have bh145 := hb46
            have bh146 := hb61
            have Kb := K
            refine WA.quiet 0 (d := 65) (.pointer (some ⟨jb9, 0, none⟩)) KC (hi := rfl) (k := ?_)
            refine WA.quiet 1 (d := 66) (.pointer (some ⟨b49, 1, none⟩)) KC (hi := rfl) (k := ?_)
            refine WA.quietR 2 (d := 67) (.string ⟨(RdX.t X).toArray⟩) KC (exec_load (fun w_ k_ => ld1 (T := 9) (i := 1) (k_.heap bh146 (Ne.symm n56)))) (hi := rfl) (k := ?_)
            refine WA.quiet 3 (d := 68) (.slice A81 (List.length (ScX.xs Y)) c82) KC (hi := rfl) (k := ?_)
            refine WA.quiet 4 (d := 69) (.agg #[.string ⟨(RdX.t X).toArray⟩, .slice A81 (List.length (ScX.xs Y)) c82]) KC (hi := rfl) (k := ?_)
            refine WA.quiet 5 (d := 4) (.pointer (some ⟨jb9, 0, none⟩)) KC (hi := rfl) (k := ?_)
            refine WA.step 6 (hi := rfl) (k := ?_)
            refine WL.store (v := .agg #[.string ⟨(RdX.t X).toArray⟩, .slice A81 (List.length (ScX.xs Y)) c82]) (i := 0) (cs' := #[.string ⟨(RdX.t X).toArray⟩, .slice A81 (List.length (ScX.xs Y)) c82]) hb4 (k := fun w147 hb148 k149 => ?_)
            replace hd86 := hd86.keeps k149 (fun i hi e => n36 (e ▸ hi))
            replace hb138 := k149.heap hb138 (Ne.symm n21)
            replace hb83 := k149.heap hb83 (Ne.symm n24)
            replace hb46 := k149.heap hb46 (Ne.symm n27)
            replace hb61 := k149.heap hb61 (Ne.symm n56)
            replace ho84 := ho84.keeps k149 (fun i hi e => (ho84.offT hb4 (by decide)) (e ▸ hi))
            replace K := K.trans' k149 (fun i hi e => absurd (e ▸ hi) (Nat.not_lt.2 z6))
            replace KC := KC.trans' k149 (fun i hi e => e)
            clear hb4
            refine WL.nil ?_
            refine WX.nxt KC ?_
            refine WA.step 7 (hi := rfl) (k := ?_)
            refine WL.op (d := 6) (.int .i64 0) (k := ?_)
            refine WL.nil ?_
            refine WX.nxtL ?_
            refine WA.done (k := ?_)
            clear KC
            refine WX.seqN ?_
            refine WC.ret ?_
            refine WX.ret (rs := [.tmp 4, .cell 5 33, .tmp 6]) [.pointer (some ⟨jb9, 0, none⟩), .agg #[.string ⟨(RdX.t X).toArray⟩, .slice A81 (List.length (ScX.xs Y)) c82], .int .i64 0] (.tuple #[.pointer (some ⟨jb9, 0, none⟩), .agg #[.string ⟨(RdX.t X).toArray⟩, .slice A81 (List.length (ScX.xs Y)) c82], .int .i64 0]) ⟨(by kernel_rfl), ⟨_, (by kernel_rfl), ldN (T := 33) (i := 0) (m := 2) (l := [.string ⟨(RdX.t X).toArray⟩, .slice A81 (List.length (ScX.xs Y)) c82]) hb148⟩, (by kernel_rfl), trivial⟩ (k := ?_)
            refine absurd ?_ hR
            rw [← hRf]; unfold opF; rw [if_neg (fun h_ => h_ ph41), hX, if_neg (fun h_ => h_ ph63), if_neg ph72, hY, if_neg (fun h_ => h_ ph130)]
set_option maxRecDepth 100000 in
set_option maxHeartbeats 4000000 in
theorem jnOpen_arg {S : Nat → Prop} {dk : Nat} {d : GDisk} {k : Int} {w : World} (hd : DiskAt S dk d w) (kr : -9223372036854775808 ≤ k ∧ k ≤ 9223372036854775807) (hc : ¬ (1 ≤ k ∧ k ≤ 64 ∧ 2 * k < (d.secs.length : Int))) : Calls Tryz.prog 13 #[.pointer (some ⟨dk, 0, none⟩), .int .i64 k] w fun e w' => e = .returned (.tuple #[.pointer none, .agg #[.string ⟨#[]⟩, .slice none 0 0], .int .i64 1]) ∧ Adds w w' := by
  have K : Keeps (fun _ => False) w w := Keeps.refl _ w
  have lk0 : ∀ k, S k → S k ∨ w.heap.size ≤ k := fun k h => .inl h
  have dl_ := hd.ok.2.2.2.2.1
  refine Calls.start Tryz.func13 rfl (by kernel_rfl) ?_
  refine WC.seq ?_
  refine WC.region ?_
  refine WL.op (d := 4) (.pointer none) (k := ?_)
  refine WL.new (d := 5) (T := 33) #[.string ⟨#[]⟩, .slice none 0 0] (k := fun b1 w2 g3 hb4 k5 => ?_)
  have z6 := Nat.le_trans K.size g3
  have n7 : ¬ S b1 := fun h => absurd (hd.lt _ h) (Nat.not_lt.2 g3)
  replace hd := hd.adds k5
  replace K := K.trans (k5.any _)
  refine WL.op (d := 6) (.int .i64 0) (k := ?_)
  refine WL.nil ?_
  refine WX.seqN ?_
  refine WC.seq ?_
  refine WC.region ?_
  refine WL.op (d := 12) (.pointer (some ⟨dk, 0, none⟩)) (k := ?_)
  refine WL.op (d := 13) (.int .i64 k) (k := ?_)
  refine WL.callG (d := 14) (f := 22) (args := #[.pointer (some ⟨dk, 0, none⟩), .int .i64 k]) (jnMade_no (k := k) hd (by omega) (by omega)) (k := fun e_ w8 h_ => ⟨.pointer none, h_.1, ?_⟩)
  have k9 := h_.2; clear h_
  replace hd := hd.adds k9
  replace hb4 := k9.heap hb4 id
  replace K := K.trans (k9.any _)
  refine WL.op (d := 7) (.pointer none) (k := ?_)
  refine WL.nil ?_
  refine WX.seqN ?_
  refine WC.seq ?_
  refine WC.seq ?_
  refine WC.region ?_
  refine WL.op (d := 15) (.pointer none) (k := ?_)
  refine WL.op (d := 16) (.bool true) (k := ?_)
  refine WL.nil ?_
  refine WX.seqN ?_
  refine WC.condT (k := ?_)
  refine WC.seq ?_
  refine WC.region ?_
  refine WL.op (d := 17) (.agg #[.string ⟨#[]⟩, .slice none 0 0]) (k := ?_)
  refine WL.op (d := 4) (.pointer none) (k := ?_)
  refine WL.store (v := .agg #[.string ⟨#[]⟩, .slice none 0 0]) (i := 0) (cs' := #[.string ⟨#[]⟩, .slice none 0 0]) hb4 (k := fun w10 hb11 k12 => ?_)
  replace hd := hd.keeps k12 (fun i hi e => n7 (e ▸ hi))
  replace K := K.trans' k12 (fun i hi e => absurd (e ▸ hi) (Nat.not_lt.2 z6))
  clear hb4
  refine WL.op (d := 6) (.int .i64 1) (k := ?_)
  refine WL.nil ?_
  refine WX.seqN ?_
  refine WC.ret ?_
  refine WX.seqR ?_
  refine WX.ret (rs := [.tmp 4, .cell 5 33, .tmp 6]) [.pointer none, .agg #[.string ⟨#[]⟩, .slice none 0 0], .int .i64 1] (.tuple #[.pointer none, .agg #[.string ⟨#[]⟩, .slice none 0 0], .int .i64 1]) ⟨(by kernel_rfl), ⟨_, (by kernel_rfl), ldN (T := 33) (i := 0) (m := 2) (l := [.string ⟨#[]⟩, .slice none 0 0]) hb11⟩, (by kernel_rfl), trivial⟩ (k := ?_)
  exact ⟨rfl, K⟩
end Go.Proofs.YtnndkgmcjbnfbaaGreatDoor
namespace Go.Proofs.YtnndkgmcjbnfbaaGreatDoor
open Go.RowKit
set_option linter.unusedVariables false
set_option linter.unusedSimpArgs false
set_option maxRecDepth 100000 in
set_option maxHeartbeats 4000000 in
theorem jnApp1_c {b2 b4 jb : Nat} {T2 T4 : TypeId} {R : Int} {v0 v1 v2 v3 : Value} {w : World} (h2 : w.heap[b2]? = some (.cells #[.pointer (some ⟨jb, 0, none⟩)] T2 (0, 0))) (h4 : w.heap[b4]? = some (.cells #[.int .i64 R] T4 (0, 0))) (hj : w.heap[jb]? = some (.cells #[v0, v1, v2, v3] 62 (0, 0))) (n2 : b2 ≠ jb) (n4 : b4 ≠ jb) : CallsDf Tryz.prog 26 #[.pointer (some ⟨b4, 0, none⟩), .pointer (some ⟨b2, 0, none⟩)] w fun e w' => e = .returned (.tuple #[]) ∧ w'.heap[jb]? = some (.cells #[v0, v1, .bool (R != 18), v3] 62 (0, 0)) ∧ Keeps (fun i => i = jb) w w' := by
  have K : Keeps (fun i => i = jb) w w := Keeps.refl _ w
  refine CallsDf.start Tryz.func26 rfl (by kernel_rfl) ?_
  refine WC.region ?_
  refine WL.load (v := .pointer (some ⟨jb, 0, none⟩)) (ld1 (T := 25) (i := 0) h2) (k := ?_)
  refine WL.load (v := .int .i64 R) (ld1 (T := 26) (i := 0) h4) (k := ?_)
  refine WL.op (d := 4) (.bool (R != 18)) (k := ?_)
  refine WL.op (d := 5) (.pointer (some ⟨jb, 0, none⟩)) (k := ?_)
  refine WL.op (d := 6) (.pointer (some ⟨jb, 2, none⟩)) (k := ?_)
  refine WL.store (v := .bool (R != 18)) (i := 2) (cs' := #[v0, v1, .bool (R != 18), v3]) hj (k := fun w1 hb2 k3 => ?_)
  replace h2 := k3.heap h2 n2
  replace h4 := k3.heap h4 n4
  replace K := K.trans' k3 (fun i hi e => e)
  clear hj
  refine WL.nil ?_
  refine WX.end (rs := []) [] (.tuple #[]) trivial (k := ?_)
  exact ⟨rfl, hb2, K⟩
set_option maxRecDepth 100000 in
set_option maxHeartbeats 4000000 in
theorem jnSnap1_c {b2 b4 jb : Nat} {T2 T4 : TypeId} {R : Int} {v0 v1 v2 v3 : Value} {w : World} (h2 : w.heap[b2]? = some (.cells #[.pointer (some ⟨jb, 0, none⟩)] T2 (0, 0))) (h4 : w.heap[b4]? = some (.cells #[.int .i64 R] T4 (0, 0))) (hj : w.heap[jb]? = some (.cells #[v0, v1, v2, v3] 62 (0, 0))) (n2 : b2 ≠ jb) (n4 : b4 ≠ jb) : CallsDf Tryz.prog 32 #[.pointer (some ⟨b4, 0, none⟩), .pointer (some ⟨b2, 0, none⟩)] w fun e w' => e = .returned (.tuple #[]) ∧ w'.heap[jb]? = some (.cells #[v0, v1, .bool (R != 18), v3] 62 (0, 0)) ∧ Keeps (fun i => i = jb) w w' := by
  have K : Keeps (fun i => i = jb) w w := Keeps.refl _ w
  refine CallsDf.start Tryz.func32 rfl (by kernel_rfl) ?_
  refine WC.region ?_
  refine WL.load (v := .pointer (some ⟨jb, 0, none⟩)) (ld1 (T := 25) (i := 0) h2) (k := ?_)
  refine WL.load (v := .int .i64 R) (ld1 (T := 26) (i := 0) h4) (k := ?_)
  refine WL.op (d := 4) (.bool (R != 18)) (k := ?_)
  refine WL.op (d := 5) (.pointer (some ⟨jb, 0, none⟩)) (k := ?_)
  refine WL.op (d := 6) (.pointer (some ⟨jb, 2, none⟩)) (k := ?_)
  refine WL.store (v := .bool (R != 18)) (i := 2) (cs' := #[v0, v1, .bool (R != 18), v3]) hj (k := fun w1 hb2 k3 => ?_)
  replace h2 := k3.heap h2 n2
  replace h4 := k3.heap h4 n4
  replace K := K.trans' k3 (fun i hi e => e)
  clear hj
  refine WL.nil ?_
  refine WX.end (rs := []) [] (.tuple #[]) trivial (k := ?_)
  exact ⟨rfl, hb2, K⟩
set_option maxRecDepth 100000 in
set_option maxHeartbeats 4000000 in
theorem jnApp_c {S : Nat → Prop} {dk jb ep nw : Nat} {k n la : Int} {rd : Bool} {st : Option (Nat × Nat)} {d : GDisk} {w : World} (hJ : JnAt S dk ⟨jb, k, n, true, ep, rd, nw, la, st, d⟩ w) {l : List UInt8} {X : ApX} (hX : apF (2 * k) n st l d = X) (hl : l.length ≤ 43) (k0 : 0 ≤ k) (k1 : k ≤ 64) (hst : ∀ e r, st = some (e, r) → e < 18446744073709551616 ∧ r ≤ 1024) (hm : d.opn.length < 1000000) : Calls Tryz.prog 11 #[.pointer (some ⟨jb, 0, none⟩), .string ⟨l.toArray⟩] w fun e w' => e = .returned (.int .i64 X.bad) ∧ JnPost S dk ⟨jb, k, n, (X.bad != 18), ep, rd, nw, la, X.st, X.d⟩ w w' := by
  have K : Keeps S w w := Keeps.refl _ w
  obtain ⟨S0, lb, sb, hd, hj, hl, hs, n1, n2, n3, hS⟩ := hJ
  dsimp only at hd hj hl hs n1 hS
  have lk0 : ∀ k, S0 k → S0 k ∨ w.heap.size ≤ k := fun k h => .inl h
  have dl_ := hd.ok.2.2.2.2.1
  have ne1 : jb ≠ lb := blk_ne hj hl (by decide)
  have ne2 : jb ≠ sb := blk_ne hj hs (by decide)
  have ne3 : lb ≠ sb := blk_ne hl hs (by decide)
  refine Calls.startM Tryz.func11 rfl (by kernel_rfl) ?_
  refine WC.seq ?_
  refine WC.region ?_
  refine WL.new (d := 2) (T := 25) #[.pointer (some ⟨jb, 0, none⟩)] (k := fun b4 w5 g6 hb7 k8 => ?_)
  have z9 := Nat.le_trans K.size g6
  have n10 : ¬ S0 b4 := fun h => absurd (hd.lt _ h) (Nat.not_lt.2 g6)
  have n11 : jb ≠ b4 := Nat.ne_of_lt (Nat.lt_of_lt_of_le (lt_of_heap hj) g6)
  have n12 : lb ≠ b4 := Nat.ne_of_lt (Nat.lt_of_lt_of_le (lt_of_heap hl) g6)
  have n13 : sb ≠ b4 := Nat.ne_of_lt (Nat.lt_of_lt_of_le (lt_of_heap hs) g6)
  replace hd := hd.adds k8
  replace hj := k8.heap hj id
  replace hl := k8.heap hl id
  replace hs := k8.heap hs id
  replace K := K.trans (k8.any _)
  refine WL.new (d := 4) (T := 26) #[.int .i64 0] (k := fun b14 w15 g16 hb17 k18 => ?_)
  have z19 := Nat.le_trans K.size g16
  have n20 : ¬ S0 b14 := fun h => absurd (hd.lt _ h) (Nat.not_lt.2 g16)
  have n21 : jb ≠ b14 := Nat.ne_of_lt (Nat.lt_of_lt_of_le (lt_of_heap hj) g16)
  have n22 : lb ≠ b14 := Nat.ne_of_lt (Nat.lt_of_lt_of_le (lt_of_heap hl) g16)
  have n23 : sb ≠ b14 := Nat.ne_of_lt (Nat.lt_of_lt_of_le (lt_of_heap hs) g16)
  have n24 : b4 ≠ b14 := Nat.ne_of_lt (Nat.lt_of_lt_of_le (lt_of_heap hb7) g16)
  replace hd := hd.adds k18
  replace hj := k18.heap hj id
  replace hl := k18.heap hl id
  replace hs := k18.heap hs id
  replace hb7 := k18.heap hb7 id
  replace K := K.trans (k18.any _)
  refine WL.nil ?_
  refine WX.seqN ?_
  refine WC.seq ?_
  refine WC.block ?_
  refine WC.seq ?_
  refine WC.region ?_
  refine WL.load (v := .pointer (some ⟨jb, 0, none⟩)) (ld1 (T := 25) (i := 0) hb7) (k := ?_)
  refine WL.op (d := 7) (.bool false) (k := ?_)
  refine WL.op (d := 8) (.bool false) (k := ?_)
  refine WL.op (d := 9) (.string ⟨(l).toArray⟩) (k := ?_)
  refine WL.op (d := 10) (.int .i64 (l.length : Int)) (k := ?_)
  refine WL.op (d := 11) (.bool (decide ((l.length : Int) > 43))) (k := ?_)
  refine WL.op (d := 12) (.bool (decide ((l.length : Int) > 43))) (k := ?_)
  refine WL.op (d := 5) (.bool (decide ((l.length : Int) > 43))) (k := ?_)
  refine WL.nil ?_
  refine WX.seqN ?_
  refine WC.cond (b := decide ((l.length : Int) > 43)) (ht := fun h25 => ?_) (hf := fun h25 => ?_)
  · have ph25 := of_decide_eq_true h25
    refine WC.seq ?_
    refine WC.region ?_
    refine WL.store (v := .int .i64 1) (i := 0) (cs' := #[.int .i64 1]) hb17 (k := fun w26 hb27 k28 => ?_)
    replace hd := hd.keeps k28 (fun i hi e => n20 (e ▸ hi))
    replace hj := k28.heap hj n21
    replace hl := k28.heap hl n22
    replace hs := k28.heap hs n23
    replace hb7 := k28.heap hb7 n24
    replace K := K.trans' k28 (fun i hi e => absurd (e ▸ hi) (Nat.not_lt.2 z19))
    clear hb17
    refine WL.nil ?_
    refine WX.seqN ?_
    refine WC.ret ?_
    refine WX.blockR ?_
    refine WX.seqR ?_
    refine WX.retM0 (rs := [.cell 4 26]) [.int .i64 1] (.int .i64 1) ⟨⟨_, (by kernel_rfl), ld1 (T := 26) (i := 0) hb27⟩, trivial⟩ rfl rfl ?_
    exfalso; omega
  · have ph25 := of_decide_eq_false h25
    refine WC.seq ?_
    refine WC.region ?_
    refine WL.load (v := .pointer (some ⟨jb, 0, none⟩)) (ld1 (T := 25) (i := 0) hb7) (k := ?_)
    refine WL.op (d := 15) (.pointer (some ⟨jb, 0, none⟩)) (k := ?_)
    refine WL.op (d := 16) (.pointer (some ⟨jb, 2, none⟩)) (k := ?_)
    refine WL.load (v := .bool true) (ld1 (T := 4) (i := 2) hj) (k := ?_)
    refine WL.op (d := 18) (.bool false) (k := ?_)
    refine WL.op (d := 13) (.bool false) (k := ?_)
    refine WL.nil ?_
    refine WX.seqN ?_
    refine WC.condF (k := ?_)
    refine WC.skip ?_
    refine WX.blockN ?_
    refine WX.seqN ?_
    refine WC.seq ?_
    refine WC.region ?_
    refine WL.op (d := 19) (.func (.func 26) #[] #[.pointer (some ⟨b14, 0, none⟩), .pointer (some ⟨b4, 0, none⟩)]) (k := ?_)
    refine WL.defer (fn := .func 26) (cap := #[.pointer (some ⟨b14, 0, none⟩), .pointer (some ⟨b4, 0, none⟩)]) (args := #[]) (k := ?_)
    refine WL.nil ?_
    refine WX.seqN ?_
    refine WC.seq ?_
    refine WC.region ?_
    refine WL.load (v := .pointer (some ⟨jb, 0, none⟩)) (ld1 (T := 25) (i := 0) hb7) (k := ?_)
    refine WL.op (d := 21) (.pointer (some ⟨jb, 0, none⟩)) (k := ?_)
    refine WL.op (d := 22) (.pointer (some ⟨jb, 0, none⟩)) (k := ?_)
    refine WL.op (d := 23) (.pointer (some ⟨jb, 0, none⟩)) (k := ?_)
    refine WL.load (v := .pointer (some ⟨lb, 0, none⟩)) (ld1 (T := 57) (i := 0) hj) (k := ?_)
    refine WL.op (d := 25) (.string ⟨(l).toArray⟩) (k := ?_)
    refine WL.callG (d := 26) (f := 27) (args := #[.pointer (some ⟨lb, 0, none⟩), .string ⟨(l).toArray⟩]) (wlApp_all hX hl hd n2 (by omega) (by omega) hst (by omega)) (k := fun e_ w29 h_ => ?_)
    obtain ⟨S30, rfl, hb31, hd32, lk33, n34, k35⟩ := h_
    refine ⟨_, rfl, ?_⟩
    have n36 : ¬ S30 jb := fun h => (lk33 _ h).elim n1 (fun h2 => absurd (lt_of_heap hj) (Nat.not_lt.2 h2))
    have n37 : ¬ S30 sb := fun h => (lk33 _ h).elim n3 (fun h2 => absurd (lt_of_heap hs) (Nat.not_lt.2 h2))
    have n38 : ¬ S30 b4 := fun h => (lk33 _ h).elim n10 (fun h2 => absurd (lt_of_heap hb7) (Nat.not_lt.2 h2))
    have n39 : ¬ S30 b14 := fun h => (lk33 _ h).elim n20 (fun h2 => absurd (lt_of_heap hb17) (Nat.not_lt.2 h2))
    have lk40 := lk_step lk0 lk33 K
    replace K := K.trans' k35 (fun i hi e => e.elim (fun e => (hS i).2 (.inr (.inr (.inl e)))) (fun e => (lk0 i e).elim (fun h => (hS i).2 (.inl h)) (fun h => absurd hi (Nat.not_lt.2 h))))
    replace hj := k35.heap hj (not_or.2 ⟨ne1, n1⟩)
    replace hs := k35.heap hs (not_or.2 ⟨Ne.symm ne3, n3⟩)
    replace hb7 := k35.heap hb7 (not_or.2 ⟨Ne.symm n12, n10⟩)
    replace hb17 := k35.heap hb17 (not_or.2 ⟨Ne.symm n22, n20⟩)
    clear hl hd
    refine WL.store (v := .int .i64 (ApX.bad X)) (i := 0) (cs' := #[.int .i64 (ApX.bad X)]) hb17 (k := fun w41 hb42 k43 => ?_)
    replace hd32 := hd32.keeps k43 (fun i hi e => n39 (e ▸ hi))
    replace hj := k43.heap hj n21
    replace hb31 := k43.heap hb31 n22
    replace hs := k43.heap hs n23
    replace hb7 := k43.heap hb7 n24
    replace K := K.trans' k43 (fun i hi e => absurd (e ▸ hi) (Nat.not_lt.2 z19))
    clear hb17
    refine WL.nil ?_
    refine WX.seqN ?_
    refine WC.ret ?_
    refine WX.retD (rs := [.cell 4 26]) (g := 26) (cap := #[.pointer (some ⟨b14, 0, none⟩), .pointer (some ⟨b4, 0, none⟩)]) (args := #[]) (fun _ _ => by kernel_rfl) (jnApp1_c (R := ApX.bad X) hb7 hb42 hj (Ne.symm n11) (Ne.symm n21)) (fun e_ w44 h_ => ?_) rfl
    obtain ⟨rfl, hj45, k46⟩ := h_
    replace hd32 := hd32.keeps k46 (fun i hi e => n36 (e ▸ hi))
    replace hb31 := k46.heap hb31 (Ne.symm ne1)
    replace hs := k46.heap hs (Ne.symm ne2)
    replace hb7 := k46.heap hb7 (Ne.symm n11)
    replace hb42 := k46.heap hb42 (Ne.symm n21)
    replace K := K.trans' k46 (fun i hi e => (hS i).2 (.inr (.inl e)))
    clear hj
    refine ⟨_, [.int .i64 (ApX.bad X)], .int .i64 (ApX.bad X), rfl, ⟨⟨_, (by kernel_rfl), ld1 (T := 26) (i := 0) hb42⟩, trivial⟩, rfl, ?_⟩
    exact ⟨rfl, _, ⟨_, _, _, hd32, hj45, hb31, hs, n36, n34, n37, fun i => Iff.rfl⟩, (fun i h => h.elim (fun h => (lk40 i h).imp (fun h => (hS i).2 (.inl h)) id) (fun h => .inl ((hS i).2 (.inr h)))), K⟩
set_option maxRecDepth 100000 in
set_option maxHeartbeats 4000000 in
theorem jnSnap_ok {S : Nat → Prop} {dk jb ep nw : Nat} {k n la : Int} {st : Option (Nat × Nat)} {d : GDisk} {w : World} (hJ : JnAt S dk ⟨jb, k, n, true, ep, true, nw, la, st, d⟩ w) {l : List UInt8} {P : Int × GDisk} (hP : putsGo (0 + slotA la k) (chunks l) (nw + 1) k.toNat 0 d = P) (hPe : P.1 = 0) (hl : l.length ≤ k * 43) (k0 : 0 ≤ k) (k1 : k ≤ 64) (hm : d.opn.length + 64 < 1000000) (hnw : nw + 1 < 18446744073709551616) : Calls Tryz.prog 18 #[.pointer (some ⟨jb, 0, none⟩), .string ⟨l.toArray⟩] w fun e w' => e = .returned (.int .i64 0) ∧ JnPost S dk ⟨jb, k, n, true, (nw + 1), true, (nw + 1), (slotN la), (some (nw + 1, 0)), P.2⟩ w w' := by
  have K : Keeps S w w := Keeps.refl _ w
  obtain ⟨S0, lb, sb, hd, hj, hl, hs, n1, n2, n3, hS⟩ := hJ
  dsimp only at hd hj hl hs n1 hS
  have lk0 : ∀ k, S0 k → S0 k ∨ w.heap.size ≤ k := fun k h => .inl h
  have dl_ := hd.ok.2.2.2.2.1
  have ne1 : jb ≠ lb := blk_ne hj hl (by decide)
  have ne2 : jb ≠ sb := blk_ne hj hs (by decide)
  have ne3 : lb ≠ sb := blk_ne hl hs (by decide)
  refine Calls.startM Tryz.func18 rfl (by kernel_rfl) ?_
  refine WC.seq ?_
  refine WC.region ?_
  refine WL.new (d := 2) (T := 25) #[.pointer (some ⟨jb, 0, none⟩)] (k := fun b4 w5 g6 hb7 k8 => ?_)
  have z9 := Nat.le_trans K.size g6
  have n10 : ¬ S0 b4 := fun h => absurd (hd.lt _ h) (Nat.not_lt.2 g6)
  have n11 : jb ≠ b4 := Nat.ne_of_lt (Nat.lt_of_lt_of_le (lt_of_heap hj) g6)
  have n12 : lb ≠ b4 := Nat.ne_of_lt (Nat.lt_of_lt_of_le (lt_of_heap hl) g6)
  have n13 : sb ≠ b4 := Nat.ne_of_lt (Nat.lt_of_lt_of_le (lt_of_heap hs) g6)
  replace hd := hd.adds k8
  replace hj := k8.heap hj id
  replace hl := k8.heap hl id
  replace hs := k8.heap hs id
  replace K := K.trans (k8.any _)
  refine WL.new (d := 4) (T := 26) #[.int .i64 0] (k := fun b14 w15 g16 hb17 k18 => ?_)
  have z19 := Nat.le_trans K.size g16
  have n20 : ¬ S0 b14 := fun h => absurd (hd.lt _ h) (Nat.not_lt.2 g16)
  have n21 : jb ≠ b14 := Nat.ne_of_lt (Nat.lt_of_lt_of_le (lt_of_heap hj) g16)
  have n22 : lb ≠ b14 := Nat.ne_of_lt (Nat.lt_of_lt_of_le (lt_of_heap hl) g16)
  have n23 : sb ≠ b14 := Nat.ne_of_lt (Nat.lt_of_lt_of_le (lt_of_heap hs) g16)
  have n24 : b4 ≠ b14 := Nat.ne_of_lt (Nat.lt_of_lt_of_le (lt_of_heap hb7) g16)
  replace hd := hd.adds k18
  replace hj := k18.heap hj id
  replace hl := k18.heap hl id
  replace hs := k18.heap hs id
  replace hb7 := k18.heap hb7 id
  replace K := K.trans (k18.any _)
  refine WL.nil ?_
  refine WX.seqN ?_
  refine WC.seq ?_
  refine WC.block ?_
  refine WC.seq ?_
  refine WC.region ?_
  refine WL.load (v := .pointer (some ⟨jb, 0, none⟩)) (ld1 (T := 25) (i := 0) hb7) (k := ?_)
  refine WL.op (d := 8) (.bool false) (k := ?_)
  refine WL.op (d := 9) (.bool false) (k := ?_)
  refine WL.op (d := 10) (.string ⟨(l).toArray⟩) (k := ?_)
  refine WL.op (d := 11) (.int .i64 (l.length : Int)) (k := ?_)
  refine WL.load (v := .pointer (some ⟨jb, 0, none⟩)) (ld1 (T := 25) (i := 0) hb7) (k := ?_)
  refine WL.op (d := 13) (.pointer (some ⟨jb, 0, none⟩)) (k := ?_)
  refine WL.op (d := 14) (.pointer (some ⟨jb, 1, none⟩)) (k := ?_)
  refine WL.load (v := .pointer (some ⟨sb, 0, none⟩)) (ld1 (T := 60) (i := 1) hj) (k := ?_)
  refine WL.callG (d := 16) (f := 31) (args := #[.pointer (some ⟨sb, 0, none⟩)]) (svRoom_b hs (by omega) (by omega)) (k := fun e_ w25 h_ => ⟨.int .i64 (k * 43), h_.1, ?_⟩)
  have k26 := h_.2; clear h_
  replace hd := hd.adds k26
  replace hj := k26.heap hj id
  replace hl := k26.heap hl id
  replace hs := k26.heap hs id
  replace hb7 := k26.heap hb7 id
  replace hb17 := k26.heap hb17 id
  replace K := K.trans (k26.any _)
  refine WL.op (d := 17) (.bool (decide ((l.length : Int) > (k * 43)))) (k := ?_)
  refine WL.op (d := 18) (.bool (decide ((l.length : Int) > (k * 43)))) (k := ?_)
  refine WL.op (d := 6) (.bool (decide ((l.length : Int) > (k * 43)))) (k := ?_)
  refine WL.nil ?_
  refine WX.seqN ?_
  refine WC.cond (b := decide ((l.length : Int) > (k * 43))) (ht := fun h27 => ?_) (hf := fun h27 => ?_)
  · have ph27 := of_decide_eq_true h27
    refine WC.seq ?_
    refine WC.region ?_
    refine WL.store (v := .int .i64 1) (i := 0) (cs' := #[.int .i64 1]) hb17 (k := fun w28 hb29 k30 => ?_)
    replace hd := hd.keeps k30 (fun i hi e => n20 (e ▸ hi))
    replace hj := k30.heap hj n21
    replace hl := k30.heap hl n22
    replace hs := k30.heap hs n23
    replace hb7 := k30.heap hb7 n24
    replace K := K.trans' k30 (fun i hi e => absurd (e ▸ hi) (Nat.not_lt.2 z19))
    clear hb17
    refine WL.nil ?_
    refine WX.seqN ?_
    refine WC.ret ?_
    refine WX.blockR ?_
    refine WX.seqR ?_
    refine WX.retM0 (rs := [.cell 4 26]) [.int .i64 1] (.int .i64 1) ⟨⟨_, (by kernel_rfl), ld1 (T := 26) (i := 0) hb29⟩, trivial⟩ rfl rfl ?_
    exfalso; omega
  · have ph27 := of_decide_eq_false h27
    refine WC.seq ?_
    refine WC.region ?_
    refine WL.load (v := .pointer (some ⟨jb, 0, none⟩)) (ld1 (T := 25) (i := 0) hb7) (k := ?_)
    refine WL.op (d := 21) (.pointer (some ⟨jb, 0, none⟩)) (k := ?_)
    refine WL.op (d := 22) (.pointer (some ⟨jb, 2, none⟩)) (k := ?_)
    refine WL.load (v := .bool true) (ld1 (T := 4) (i := 2) hj) (k := ?_)
    refine WL.op (d := 24) (.bool false) (k := ?_)
    refine WL.op (d := 19) (.bool false) (k := ?_)
    refine WL.nil ?_
    refine WX.seqN ?_
    refine WC.condF (k := ?_)
    refine WC.skip ?_
    refine WX.blockN ?_
    refine WX.seqN ?_
    refine WC.seq ?_
    refine WC.region ?_
    refine WL.op (d := 25) (.func (.func 32) #[] #[.pointer (some ⟨b14, 0, none⟩), .pointer (some ⟨b4, 0, none⟩)]) (k := ?_)
    refine WL.defer (fn := .func 32) (cap := #[.pointer (some ⟨b14, 0, none⟩), .pointer (some ⟨b4, 0, none⟩)]) (args := #[]) (k := ?_)
    refine WL.nil ?_
    refine WX.seqN ?_
    refine WC.seq ?_
    refine WC.region ?_
    refine WL.load (v := .pointer (some ⟨jb, 0, none⟩)) (ld1 (T := 25) (i := 0) hb7) (k := ?_)
    refine WL.op (d := 28) (.pointer (some ⟨jb, 0, none⟩)) (k := ?_)
    refine WL.op (d := 29) (.pointer (some ⟨jb, 1, none⟩)) (k := ?_)
    refine WL.load (v := .pointer (some ⟨sb, 0, none⟩)) (ld1 (T := 60) (i := 1) hj) (k := ?_)
    refine WL.op (d := 31) (.string ⟨(l).toArray⟩) (k := ?_)
    refine WL.callG (d := 32) (f := 24) (args := #[.pointer (some ⟨sb, 0, none⟩), .string ⟨(l).toArray⟩]) (svWrite_ok (P := P) (la := la) (nw := nw) (l := l) (k := k) (by omega) (by omega) (by omega) (by omega) hs hd n3 (by omega) (by omega) (by omega) hP hPe) (k := fun e_ w31 h_ => ?_)
    obtain ⟨rfl, hb33, S32, hd34, lk35, n36, k37⟩ := h_
    refine ⟨_, rfl, ?_⟩
    have n38 : ¬ S32 jb := fun h => (lk35 _ h).elim n1 (fun h2 => absurd (lt_of_heap hj) (Nat.not_lt.2 h2))
    have n39 : ¬ S32 lb := fun h => (lk35 _ h).elim n2 (fun h2 => absurd (lt_of_heap hl) (Nat.not_lt.2 h2))
    have n40 : ¬ S32 b4 := fun h => (lk35 _ h).elim n10 (fun h2 => absurd (lt_of_heap hb7) (Nat.not_lt.2 h2))
    have n41 : ¬ S32 b14 := fun h => (lk35 _ h).elim n20 (fun h2 => absurd (lt_of_heap hb17) (Nat.not_lt.2 h2))
    have lk42 := lk_step lk0 lk35 K
    replace K := K.trans' k37 (fun i hi e => e.elim (fun e => (hS i).2 (.inr (.inr (.inr e)))) (fun e => (lk0 i e).elim (fun h => (hS i).2 (.inl h)) (fun h => absurd hi (Nat.not_lt.2 h))))
    replace hj := k37.heap hj (not_or.2 ⟨ne2, n1⟩)
    replace hl := k37.heap hl (not_or.2 ⟨ne3, n2⟩)
    replace hb7 := k37.heap hb7 (not_or.2 ⟨Ne.symm n13, n10⟩)
    replace hb17 := k37.heap hb17 (not_or.2 ⟨Ne.symm n23, n20⟩)
    clear hs hd
    refine WL.op (d := 26) (.tuple #[.int .u64 ((nw + 1 : Nat) : Int), .int .i64 0]) (k := ?_)
    refine WL.op (d := 33) (.int .u64 ((nw + 1 : Nat) : Int)) (k := ?_)
    refine WL.op (d := 34) (.int .i64 0) (k := ?_)
    refine WL.op (d := 5) (.int .u64 ((nw + 1 : Nat) : Int)) (k := ?_)
    refine WL.store (v := .int .i64 0) (i := 0) (cs' := #[.int .i64 0]) hb17 (k := fun w43 hb44 k45 => ?_)
    replace hd34 := hd34.keeps k45 (fun i hi e => n41 (e ▸ hi))
    replace hj := k45.heap hj n21
    replace hl := k45.heap hl n22
    replace hb33 := k45.heap hb33 n23
    replace hb7 := k45.heap hb7 n24
    replace K := K.trans' k45 (fun i hi e => absurd (e ▸ hi) (Nat.not_lt.2 z19))
    clear hb17
    refine WL.nil ?_
    refine WX.seqN ?_
    refine WC.seq ?_
    refine WC.seq ?_
    refine WC.region ?_
    refine WL.load (v := .int .i64 0) (ld1 (T := 26) (i := 0) hb44) (k := ?_)
    refine WL.op (d := 36) (.bool false) (k := ?_)
    refine WL.nil ?_
    refine WX.seqN ?_
    refine WC.condF (k := ?_)
    refine WC.skip ?_
    refine WX.seqN ?_
    refine WC.seq ?_
    refine WC.region ?_
    refine WL.load (v := .pointer (some ⟨jb, 0, none⟩)) (ld1 (T := 25) (i := 0) hb7) (k := ?_)
    refine WL.op (d := 39) (.int .u64 ((nw + 1 : Nat) : Int)) (k := ?_)
    refine WL.callG (d := 40) (f := 25) (args := #[.pointer (some ⟨jb, 0, none⟩), .int .u64 ((nw + 1 : Nat) : Int)]) (jnBegins_c (e := nw + 1) hj hl (by omega)) (k := fun e_ w46 h_ => ?_)
    obtain ⟨rfl, hj47, hl48, k49⟩ := h_
    refine ⟨_, rfl, ?_⟩
    replace K := K.trans' k49 (fun i hi e => e.elim (fun e => (hS i).2 (.inr (.inl e))) (fun e => (hS i).2 (.inr (.inr (.inl e)))))
    replace hd34 := hd34.keeps k49 (fun i hi h => h.elim (fun e => n38 (e ▸ hi)) (fun h => n39 (h ▸ hi)))
    replace hb33 := k49.heap hb33 (fun h => h.elim (Ne.symm ne2) (fun h => (Ne.symm ne3) h))
    replace hb7 := k49.heap hb7 (fun h => h.elim (Ne.symm n11) (fun h => (Ne.symm n12) h))
    replace hb44 := k49.heap hb44 (fun h => h.elim (Ne.symm n21) (fun h => (Ne.symm n22) h))
    clear hj hl
    refine WL.nil ?_
    refine WX.seqN ?_
    refine WC.seq ?_
    refine WC.region ?_
    refine WL.store (v := .int .i64 0) (i := 0) (cs' := #[.int .i64 0]) hb44 (k := fun w50 hb51 k52 => ?_)
    replace hd34 := hd34.keeps k52 (fun i hi e => n41 (e ▸ hi))
    replace hj47 := k52.heap hj47 n21
    replace hl48 := k52.heap hl48 n22
    replace hb33 := k52.heap hb33 n23
    replace hb7 := k52.heap hb7 n24
    replace K := K.trans' k52 (fun i hi e => absurd (e ▸ hi) (Nat.not_lt.2 z19))
    clear hb44
    refine WL.nil ?_
    refine WX.seqN ?_
    refine WC.ret ?_
    refine WX.retD (rs := [.cell 4 26]) (g := 32) (cap := #[.pointer (some ⟨b14, 0, none⟩), .pointer (some ⟨b4, 0, none⟩)]) (args := #[]) (fun _ _ => by kernel_rfl) (jnSnap1_c (R := 0) hb7 hb51 hj47 (Ne.symm n11) (Ne.symm n21)) (fun e_ w53 h_ => ?_) rfl
    obtain ⟨rfl, hj54, k55⟩ := h_
    replace hd34 := hd34.keeps k55 (fun i hi e => n38 (e ▸ hi))
    replace hl48 := k55.heap hl48 (Ne.symm ne1)
    replace hb33 := k55.heap hb33 (Ne.symm ne2)
    replace hb7 := k55.heap hb7 (Ne.symm n11)
    replace hb51 := k55.heap hb51 (Ne.symm n21)
    replace K := K.trans' k55 (fun i hi e => (hS i).2 (.inr (.inl e)))
    clear hj47
    refine ⟨_, [.int .i64 0], .int .i64 0, rfl, ⟨⟨_, (by kernel_rfl), ld1 (T := 26) (i := 0) hb51⟩, trivial⟩, rfl, ?_⟩
    exact ⟨rfl, _, ⟨_, _, _, hd34, hj54, hl48, hb33, n38, n39, n36, fun i => Iff.rfl⟩, (fun i h => h.elim (fun h => (lk42 i h).imp (fun h => (hS i).2 (.inl h)) id) (fun h => .inl ((hS i).2 (.inr h)))), K⟩
set_option maxRecDepth 100000 in
set_option maxHeartbeats 4000000 in
theorem jnSnap_no {S : Nat → Prop} {dk jb ep nw : Nat} {k n la : Int} {st : Option (Nat × Nat)} {d : GDisk} {w : World} (hJ : JnAt S dk ⟨jb, k, n, true, ep, true, nw, la, st, d⟩ w) {l : List UInt8} {P : Int × GDisk} (hP : putsGo (0 + slotA la k) (chunks l) (nw + 1) k.toNat 0 d = P) (hPe : ¬ P.1 = 0) (hl : l.length ≤ k * 43) (k0 : 0 ≤ k) (k1 : k ≤ 64) (hm : d.opn.length + 64 < 1000000) (hnw : nw + 1 < 18446744073709551616) : Calls Tryz.prog 18 #[.pointer (some ⟨jb, 0, none⟩), .string ⟨l.toArray⟩] w fun e w' => e = .returned (.int .i64 P.1) ∧ JnPost S dk ⟨jb, k, n, (P.1 != 18), ep, false, (nw + 1), la, st, P.2⟩ w w' := by
  have K : Keeps S w w := Keeps.refl _ w
  obtain ⟨S0, lb, sb, hd, hj, hl, hs, n1, n2, n3, hS⟩ := hJ
  dsimp only at hd hj hl hs n1 hS
  have lk0 : ∀ k, S0 k → S0 k ∨ w.heap.size ≤ k := fun k h => .inl h
  have dl_ := hd.ok.2.2.2.2.1
  have ne1 : jb ≠ lb := blk_ne hj hl (by decide)
  have ne2 : jb ≠ sb := blk_ne hj hs (by decide)
  have ne3 : lb ≠ sb := blk_ne hl hs (by decide)
  have h4 : (Prod.fst P != 0) = true := bne_iff_ne.2 hPe
  have ph4 := bne_iff_ne.1 h4
  refine Calls.startM Tryz.func18 rfl (by kernel_rfl) ?_
  refine WC.seq ?_
  refine WC.region ?_
  refine WL.new (d := 2) (T := 25) #[.pointer (some ⟨jb, 0, none⟩)] (k := fun b5 w6 g7 hb8 k9 => ?_)
  have z10 := Nat.le_trans K.size g7
  have n11 : ¬ S0 b5 := fun h => absurd (hd.lt _ h) (Nat.not_lt.2 g7)
  have n12 : jb ≠ b5 := Nat.ne_of_lt (Nat.lt_of_lt_of_le (lt_of_heap hj) g7)
  have n13 : lb ≠ b5 := Nat.ne_of_lt (Nat.lt_of_lt_of_le (lt_of_heap hl) g7)
  have n14 : sb ≠ b5 := Nat.ne_of_lt (Nat.lt_of_lt_of_le (lt_of_heap hs) g7)
  replace hd := hd.adds k9
  replace hj := k9.heap hj id
  replace hl := k9.heap hl id
  replace hs := k9.heap hs id
  replace K := K.trans (k9.any _)
  refine WL.new (d := 4) (T := 26) #[.int .i64 0] (k := fun b15 w16 g17 hb18 k19 => ?_)
  have z20 := Nat.le_trans K.size g17
  have n21 : ¬ S0 b15 := fun h => absurd (hd.lt _ h) (Nat.not_lt.2 g17)
  have n22 : jb ≠ b15 := Nat.ne_of_lt (Nat.lt_of_lt_of_le (lt_of_heap hj) g17)
  have n23 : lb ≠ b15 := Nat.ne_of_lt (Nat.lt_of_lt_of_le (lt_of_heap hl) g17)
  have n24 : sb ≠ b15 := Nat.ne_of_lt (Nat.lt_of_lt_of_le (lt_of_heap hs) g17)
  have n25 : b5 ≠ b15 := Nat.ne_of_lt (Nat.lt_of_lt_of_le (lt_of_heap hb8) g17)
  replace hd := hd.adds k19
  replace hj := k19.heap hj id
  replace hl := k19.heap hl id
  replace hs := k19.heap hs id
  replace hb8 := k19.heap hb8 id
  replace K := K.trans (k19.any _)
  refine WL.nil ?_
  refine WX.seqN ?_
  refine WC.seq ?_
  refine WC.block ?_
  refine WC.seq ?_
  refine WC.region ?_
  refine WL.load (v := .pointer (some ⟨jb, 0, none⟩)) (ld1 (T := 25) (i := 0) hb8) (k := ?_)
  refine WL.op (d := 8) (.bool false) (k := ?_)
  refine WL.op (d := 9) (.bool false) (k := ?_)
  refine WL.op (d := 10) (.string ⟨(l).toArray⟩) (k := ?_)
  refine WL.op (d := 11) (.int .i64 (l.length : Int)) (k := ?_)
  refine WL.load (v := .pointer (some ⟨jb, 0, none⟩)) (ld1 (T := 25) (i := 0) hb8) (k := ?_)
  refine WL.op (d := 13) (.pointer (some ⟨jb, 0, none⟩)) (k := ?_)
  refine WL.op (d := 14) (.pointer (some ⟨jb, 1, none⟩)) (k := ?_)
  refine WL.load (v := .pointer (some ⟨sb, 0, none⟩)) (ld1 (T := 60) (i := 1) hj) (k := ?_)
  refine WL.callG (d := 16) (f := 31) (args := #[.pointer (some ⟨sb, 0, none⟩)]) (svRoom_b hs (by omega) (by omega)) (k := fun e_ w26 h_ => ⟨.int .i64 (k * 43), h_.1, ?_⟩)
  have k27 := h_.2; clear h_
  replace hd := hd.adds k27
  replace hj := k27.heap hj id
  replace hl := k27.heap hl id
  replace hs := k27.heap hs id
  replace hb8 := k27.heap hb8 id
  replace hb18 := k27.heap hb18 id
  replace K := K.trans (k27.any _)
  refine WL.op (d := 17) (.bool (decide ((l.length : Int) > (k * 43)))) (k := ?_)
  refine WL.op (d := 18) (.bool (decide ((l.length : Int) > (k * 43)))) (k := ?_)
  refine WL.op (d := 6) (.bool (decide ((l.length : Int) > (k * 43)))) (k := ?_)
  refine WL.nil ?_
  refine WX.seqN ?_
  refine WC.cond (b := decide ((l.length : Int) > (k * 43))) (ht := fun h28 => ?_) (hf := fun h28 => ?_)
  · have ph28 := of_decide_eq_true h28
    refine WC.seq ?_
    refine WC.region ?_
    refine WL.store (v := .int .i64 1) (i := 0) (cs' := #[.int .i64 1]) hb18 (k := fun w29 hb30 k31 => ?_)
    replace hd := hd.keeps k31 (fun i hi e => n21 (e ▸ hi))
    replace hj := k31.heap hj n22
    replace hl := k31.heap hl n23
    replace hs := k31.heap hs n24
    replace hb8 := k31.heap hb8 n25
    replace K := K.trans' k31 (fun i hi e => absurd (e ▸ hi) (Nat.not_lt.2 z20))
    clear hb18
    refine WL.nil ?_
    refine WX.seqN ?_
    refine WC.ret ?_
    refine WX.blockR ?_
    refine WX.seqR ?_
    refine WX.retM0 (rs := [.cell 4 26]) [.int .i64 1] (.int .i64 1) ⟨⟨_, (by kernel_rfl), ld1 (T := 26) (i := 0) hb30⟩, trivial⟩ rfl rfl ?_
    exfalso; omega
  · have ph28 := of_decide_eq_false h28
    refine WC.seq ?_
    refine WC.region ?_
    refine WL.load (v := .pointer (some ⟨jb, 0, none⟩)) (ld1 (T := 25) (i := 0) hb8) (k := ?_)
    refine WL.op (d := 21) (.pointer (some ⟨jb, 0, none⟩)) (k := ?_)
    refine WL.op (d := 22) (.pointer (some ⟨jb, 2, none⟩)) (k := ?_)
    refine WL.load (v := .bool true) (ld1 (T := 4) (i := 2) hj) (k := ?_)
    refine WL.op (d := 24) (.bool false) (k := ?_)
    refine WL.op (d := 19) (.bool false) (k := ?_)
    refine WL.nil ?_
    refine WX.seqN ?_
    refine WC.condF (k := ?_)
    refine WC.skip ?_
    refine WX.blockN ?_
    refine WX.seqN ?_
    refine WC.seq ?_
    refine WC.region ?_
    refine WL.op (d := 25) (.func (.func 32) #[] #[.pointer (some ⟨b15, 0, none⟩), .pointer (some ⟨b5, 0, none⟩)]) (k := ?_)
    refine WL.defer (fn := .func 32) (cap := #[.pointer (some ⟨b15, 0, none⟩), .pointer (some ⟨b5, 0, none⟩)]) (args := #[]) (k := ?_)
    refine WL.nil ?_
    refine WX.seqN ?_
    refine WC.seq ?_
    refine WC.region ?_
    refine WL.load (v := .pointer (some ⟨jb, 0, none⟩)) (ld1 (T := 25) (i := 0) hb8) (k := ?_)
    refine WL.op (d := 28) (.pointer (some ⟨jb, 0, none⟩)) (k := ?_)
    refine WL.op (d := 29) (.pointer (some ⟨jb, 1, none⟩)) (k := ?_)
    refine WL.load (v := .pointer (some ⟨sb, 0, none⟩)) (ld1 (T := 60) (i := 1) hj) (k := ?_)
    refine WL.op (d := 31) (.string ⟨(l).toArray⟩) (k := ?_)
    refine WL.callG (d := 32) (f := 24) (args := #[.pointer (some ⟨sb, 0, none⟩), .string ⟨(l).toArray⟩]) (svWrite_no (P := P) (la := la) (nw := nw) (l := l) (k := k) (by omega) (by omega) (by omega) (by omega) hs hd n3 (by omega) (by omega) (by omega) hP hPe) (k := fun e_ w32 h_ => ?_)
    obtain ⟨rfl, hb34, S33, hd35, lk36, n37, k38⟩ := h_
    refine ⟨_, rfl, ?_⟩
    have n39 : ¬ S33 jb := fun h => (lk36 _ h).elim n1 (fun h2 => absurd (lt_of_heap hj) (Nat.not_lt.2 h2))
    have n40 : ¬ S33 lb := fun h => (lk36 _ h).elim n2 (fun h2 => absurd (lt_of_heap hl) (Nat.not_lt.2 h2))
    have n41 : ¬ S33 b5 := fun h => (lk36 _ h).elim n11 (fun h2 => absurd (lt_of_heap hb8) (Nat.not_lt.2 h2))
    have n42 : ¬ S33 b15 := fun h => (lk36 _ h).elim n21 (fun h2 => absurd (lt_of_heap hb18) (Nat.not_lt.2 h2))
    have lk43 := lk_step lk0 lk36 K
    replace K := K.trans' k38 (fun i hi e => e.elim (fun e => (hS i).2 (.inr (.inr (.inr e)))) (fun e => (lk0 i e).elim (fun h => (hS i).2 (.inl h)) (fun h => absurd hi (Nat.not_lt.2 h))))
    replace hj := k38.heap hj (not_or.2 ⟨ne2, n1⟩)
    replace hl := k38.heap hl (not_or.2 ⟨ne3, n2⟩)
    replace hb8 := k38.heap hb8 (not_or.2 ⟨Ne.symm n14, n11⟩)
    replace hb18 := k38.heap hb18 (not_or.2 ⟨Ne.symm n24, n21⟩)
    clear hs hd
    refine WL.op (d := 26) (.tuple #[.int .u64 0, .int .i64 (Prod.fst P)]) (k := ?_)
    refine WL.op (d := 33) (.int .u64 0) (k := ?_)
    refine WL.op (d := 34) (.int .i64 (Prod.fst P)) (k := ?_)
    refine WL.op (d := 5) (.int .u64 0) (k := ?_)
    refine WL.store (v := .int .i64 (Prod.fst P)) (i := 0) (cs' := #[.int .i64 (Prod.fst P)]) hb18 (k := fun w44 hb45 k46 => ?_)
    replace hd35 := hd35.keeps k46 (fun i hi e => n42 (e ▸ hi))
    replace hj := k46.heap hj n22
    replace hl := k46.heap hl n23
    replace hb34 := k46.heap hb34 n24
    replace hb8 := k46.heap hb8 n25
    replace K := K.trans' k46 (fun i hi e => absurd (e ▸ hi) (Nat.not_lt.2 z20))
    clear hb18
    refine WL.nil ?_
    refine WX.seqN ?_
    refine WC.seq ?_
    refine WC.seq ?_
    refine WC.region ?_
    refine WL.load (v := .int .i64 (Prod.fst P)) (ld1 (T := 26) (i := 0) hb45) (k := ?_)
    refine WL.op (d := 36) (.bool ((Prod.fst P) != 0)) (k := ?_)
    refine WL.nil ?_
    refine WX.seqN ?_
    refine WC.cond (b := (Prod.fst P) != 0) (ht := fun h47 => ?_) (hf := fun h47 => ?_)
    · have ph47 := bne_iff_ne.1 h47
      refine WC.seq ?_
      refine WC.region ?_
      refine WL.load (v := .int .i64 (Prod.fst P)) (ld1 (T := 26) (i := 0) hb45) (k := ?_)
      refine WL.store (v := .int .i64 (Prod.fst P)) (i := 0) (cs' := #[.int .i64 (Prod.fst P)]) hb45 (k := fun w48 hb49 k50 => ?_)
      replace hd35 := hd35.keeps k50 (fun i hi e => n42 (e ▸ hi))
      replace hj := k50.heap hj n22
      replace hl := k50.heap hl n23
      replace hb34 := k50.heap hb34 n24
      replace hb8 := k50.heap hb8 n25
      replace K := K.trans' k50 (fun i hi e => absurd (e ▸ hi) (Nat.not_lt.2 z20))
      clear hb45
      refine WL.nil ?_
      refine WX.seqN ?_
      refine WC.ret ?_
      refine WX.seqR ?_
      refine WX.retD (rs := [.cell 4 26]) (g := 32) (cap := #[.pointer (some ⟨b15, 0, none⟩), .pointer (some ⟨b5, 0, none⟩)]) (args := #[]) (fun _ _ => by kernel_rfl) (jnSnap1_c (R := Prod.fst P) hb8 hb49 hj (Ne.symm n12) (Ne.symm n22)) (fun e_ w51 h_ => ?_) rfl
      obtain ⟨rfl, hj52, k53⟩ := h_
      replace hd35 := hd35.keeps k53 (fun i hi e => n39 (e ▸ hi))
      replace hl := k53.heap hl (Ne.symm ne1)
      replace hb34 := k53.heap hb34 (Ne.symm ne2)
      replace hb8 := k53.heap hb8 (Ne.symm n12)
      replace hb49 := k53.heap hb49 (Ne.symm n22)
      replace K := K.trans' k53 (fun i hi e => (hS i).2 (.inr (.inl e)))
      clear hj
      refine ⟨_, [.int .i64 (Prod.fst P)], .int .i64 (Prod.fst P), rfl, ⟨⟨_, (by kernel_rfl), ld1 (T := 26) (i := 0) hb49⟩, trivial⟩, rfl, ?_⟩
      exact ⟨rfl, _, ⟨_, _, _, hd35, hj52, hl, hb34, n39, n40, n37, fun i => Iff.rfl⟩, (fun i h => h.elim (fun h => (lk43 i h).imp (fun h => (hS i).2 (.inl h)) id) (fun h => .inl ((hS i).2 (.inr h)))), K⟩
    · have ph47 := of_bne_false h47
      refine WC.skip ?_
      refine WX.seqN ?_
      refine WC.seq ?_
      refine WC.region ?_
      refine WL.load (v := .pointer (some ⟨jb, 0, none⟩)) (ld1 (T := 25) (i := 0) hb8) (k := ?_)
      refine WL.op (d := 39) (.int .u64 0) (k := ?_)
      refine WL.callG (d := 40) (f := 25) (args := #[.pointer (some ⟨jb, 0, none⟩), .int .u64 0]) (jnBegins_c (e := 0) hj hl (by omega)) (k := fun e_ w54 h_ => ?_)
      obtain ⟨rfl, hj55, hl56, k57⟩ := h_
      refine ⟨_, rfl, ?_⟩
      replace K := K.trans' k57 (fun i hi e => e.elim (fun e => (hS i).2 (.inr (.inl e))) (fun e => (hS i).2 (.inr (.inr (.inl e)))))
      replace hd35 := hd35.keeps k57 (fun i hi h => h.elim (fun e => n39 (e ▸ hi)) (fun h => n40 (h ▸ hi)))
      replace hb34 := k57.heap hb34 (fun h => h.elim (Ne.symm ne2) (fun h => (Ne.symm ne3) h))
      replace hb8 := k57.heap hb8 (fun h => h.elim (Ne.symm n12) (fun h => (Ne.symm n13) h))
      replace hb45 := k57.heap hb45 (fun h => h.elim (Ne.symm n22) (fun h => (Ne.symm n23) h))
      clear hj hl
      refine WL.nil ?_
      refine WX.seqN ?_
      refine WC.seq ?_
      refine WC.region ?_
      refine WL.store (v := .int .i64 0) (i := 0) (cs' := #[.int .i64 0]) hb45 (k := fun w58 hb59 k60 => ?_)
      replace hd35 := hd35.keeps k60 (fun i hi e => n42 (e ▸ hi))
      replace hj55 := k60.heap hj55 n22
      replace hl56 := k60.heap hl56 n23
      replace hb34 := k60.heap hb34 n24
      replace hb8 := k60.heap hb8 n25
      replace K := K.trans' k60 (fun i hi e => absurd (e ▸ hi) (Nat.not_lt.2 z20))
      clear hb45
      refine WL.nil ?_
      refine WX.seqN ?_
      refine WC.ret ?_
      refine WX.retD (rs := [.cell 4 26]) (g := 32) (cap := #[.pointer (some ⟨b15, 0, none⟩), .pointer (some ⟨b5, 0, none⟩)]) (args := #[]) (fun _ _ => by kernel_rfl) (jnSnap1_c (R := 0) hb8 hb59 hj55 (Ne.symm n12) (Ne.symm n22)) (fun e_ w61 h_ => ?_) rfl
      obtain ⟨rfl, hj62, k63⟩ := h_
      replace hd35 := hd35.keeps k63 (fun i hi e => n39 (e ▸ hi))
      replace hl56 := k63.heap hl56 (Ne.symm ne1)
      replace hb34 := k63.heap hb34 (Ne.symm ne2)
      replace hb8 := k63.heap hb8 (Ne.symm n12)
      replace hb59 := k63.heap hb59 (Ne.symm n22)
      replace K := K.trans' k63 (fun i hi e => (hS i).2 (.inr (.inl e)))
      clear hj55
      refine ⟨_, [.int .i64 0], .int .i64 0, rfl, ⟨⟨_, (by kernel_rfl), ld1 (T := 26) (i := 0) hb59⟩, trivial⟩, rfl, ?_⟩
      exfalso; omega
set_option maxRecDepth 100000 in
set_option maxHeartbeats 4000000 in
theorem jnGood_c {S : Nat → Prop} {dk jb ep nw : Nat} {k n la : Int} {rd good : Bool} {st : Option (Nat × Nat)} {d : GDisk} {w : World} (hJ : JnAt S dk ⟨jb, k, n, good, ep, rd, nw, la, st, d⟩ w) : Calls Tryz.prog 19 #[.pointer (some ⟨jb, 0, none⟩)] w fun e w' => e = .returned (.bool good) ∧ Adds w w' := by
  have K : Keeps (fun _ => False) w w := Keeps.refl _ w
  obtain ⟨S0, lb, sb, hd, hj, hl, hs, n1, n2, n3, hS⟩ := hJ
  dsimp only at hd hj hl hs n1 hS
  have lk0 : ∀ k, S0 k → S0 k ∨ w.heap.size ≤ k := fun k h => .inl h
  have dl_ := hd.ok.2.2.2.2.1
  have ne1 : jb ≠ lb := blk_ne hj hl (by decide)
  have ne2 : jb ≠ sb := blk_ne hj hs (by decide)
  have ne3 : lb ≠ sb := blk_ne hl hs (by decide)
  refine Calls.start Tryz.func19 rfl (by kernel_rfl) ?_
  refine WC.seq ?_
  refine WC.region ?_
  refine WL.op (d := 2) (.bool false) (k := ?_)
  refine WL.nil ?_
  refine WX.seqN ?_
  refine WC.seq ?_
  refine WC.region ?_
  refine WL.op (d := 3) (.pointer (some ⟨jb, 0, none⟩)) (k := ?_)
  refine WL.op (d := 4) (.bool true) (k := ?_)
  refine WL.op (d := 5) (.bool true) (k := ?_)
  refine WL.op (d := 6) (.pointer (some ⟨jb, 0, none⟩)) (k := ?_)
  refine WL.op (d := 7) (.pointer (some ⟨jb, 0, none⟩)) (k := ?_)
  refine WL.op (d := 8) (.pointer (some ⟨jb, 2, none⟩)) (k := ?_)
  refine WL.load (v := .bool good) (ld1 (T := 4) (i := 2) hj) (k := ?_)
  refine WL.op (d := 10) (.bool good) (k := ?_)
  refine WL.op (d := 2) (.bool good) (k := ?_)
  refine WL.nil ?_
  refine WX.seqN ?_
  refine WC.ret ?_
  refine WX.ret (rs := [.tmp 2]) [.bool good] (.bool good) ⟨(by kernel_rfl), trivial⟩ (k := ?_)
  exact ⟨rfl, K⟩
set_option maxRecDepth 100000 in
set_option maxHeartbeats 4000000 in
theorem jnGood_nil (w : World) : Calls Tryz.prog 19 #[.pointer none] w fun e w' => e = .returned (.bool false) ∧ Adds w w' := by
  have K : Keeps (fun _ => False) w w := Keeps.refl _ w
  refine Calls.start Tryz.func19 rfl (by kernel_rfl) ?_
  refine WC.seq ?_
  refine WC.region ?_
  refine WL.op (d := 2) (.bool false) (k := ?_)
  refine WL.nil ?_
  refine WX.seqN ?_
  refine WC.seq ?_
  refine WC.region ?_
  refine WL.op (d := 3) (.pointer none) (k := ?_)
  refine WL.op (d := 4) (.bool false) (k := ?_)
  refine WL.op (d := 5) (.bool false) (k := ?_)
  refine WL.skip (d := 6) (k := ?_)
  refine WL.skip (d := 7) (k := ?_)
  refine WL.skip (d := 8) (k := ?_)
  refine WL.skip (d := 9) (k := ?_)
  refine WL.op (d := 10) (.bool false) (k := ?_)
  refine WL.op (d := 2) (.bool false) (k := ?_)
  refine WL.nil ?_
  refine WX.seqN ?_
  refine WC.ret ?_
  refine WX.ret (rs := [.tmp 2]) [.bool false] (.bool false) ⟨(by kernel_rfl), trivial⟩ (k := ?_)
  exact ⟨rfl, K⟩
set_option maxRecDepth 100000 in
set_option maxHeartbeats 4000000 in
theorem jnEpoch_c {S : Nat → Prop} {dk jb ep nw : Nat} {k n la : Int} {rd good : Bool} {st : Option (Nat × Nat)} {d : GDisk} {w : World} (hJ : JnAt S dk ⟨jb, k, n, good, ep, rd, nw, la, st, d⟩ w) : Calls Tryz.prog 16 #[.pointer (some ⟨jb, 0, none⟩)] w fun e w' => e = .returned (.int .u64 (ep : Int)) ∧ Adds w w' := by
  have K : Keeps (fun _ => False) w w := Keeps.refl _ w
  obtain ⟨S0, lb, sb, hd, hj, hl, hs, n1, n2, n3, hS⟩ := hJ
  dsimp only at hd hj hl hs n1 hS
  have lk0 : ∀ k, S0 k → S0 k ∨ w.heap.size ≤ k := fun k h => .inl h
  have dl_ := hd.ok.2.2.2.2.1
  have ne1 : jb ≠ lb := blk_ne hj hl (by decide)
  have ne2 : jb ≠ sb := blk_ne hj hs (by decide)
  have ne3 : lb ≠ sb := blk_ne hl hs (by decide)
  refine Calls.start Tryz.func16 rfl (by kernel_rfl) ?_
  refine WC.seq ?_
  refine WC.region ?_
  refine WL.op (d := 2) (.int .u64 0) (k := ?_)
  refine WL.nil ?_
  refine WX.seqN ?_
  refine WC.seq ?_
  refine WC.seq ?_
  refine WC.region ?_
  refine WL.op (d := 3) (.pointer (some ⟨jb, 0, none⟩)) (k := ?_)
  refine WL.op (d := 4) (.bool false) (k := ?_)
  refine WL.nil ?_
  refine WX.seqN ?_
  refine WC.condF (k := ?_)
  refine WC.skip ?_
  refine WX.seqN ?_
  refine WC.seq ?_
  refine WC.region ?_
  refine WL.op (d := 5) (.pointer (some ⟨jb, 0, none⟩)) (k := ?_)
  refine WL.op (d := 6) (.pointer (some ⟨jb, 0, none⟩)) (k := ?_)
  refine WL.op (d := 7) (.pointer (some ⟨jb, 3, none⟩)) (k := ?_)
  refine WL.load (v := .int .u64 ((ep : Nat) : Int)) (ld1 (T := 41) (i := 3) hj) (k := ?_)
  refine WL.op (d := 2) (.int .u64 ((ep : Nat) : Int)) (k := ?_)
  refine WL.nil ?_
  refine WX.seqN ?_
  refine WC.ret ?_
  refine WX.ret (rs := [.tmp 2]) [.int .u64 ((ep : Nat) : Int)] (.int .u64 ((ep : Nat) : Int)) ⟨(by kernel_rfl), trivial⟩ (k := ?_)
  exact ⟨rfl, K⟩
set_option maxRecDepth 100000 in
set_option maxHeartbeats 4000000 in
theorem jnEpoch_nil (w : World) : Calls Tryz.prog 16 #[.pointer none] w fun e w' => e = .returned (.int .u64 0) ∧ Adds w w' := by
  have K : Keeps (fun _ => False) w w := Keeps.refl _ w
  refine Calls.start Tryz.func16 rfl (by kernel_rfl) ?_
  refine WC.seq ?_
  refine WC.region ?_
  refine WL.op (d := 2) (.int .u64 0) (k := ?_)
  refine WL.nil ?_
  refine WX.seqN ?_
  refine WC.seq ?_
  refine WC.seq ?_
  refine WC.region ?_
  refine WL.op (d := 3) (.pointer none) (k := ?_)
  refine WL.op (d := 4) (.bool true) (k := ?_)
  refine WL.nil ?_
  refine WX.seqN ?_
  refine WC.condT (k := ?_)
  refine WC.seq ?_
  refine WC.region ?_
  refine WL.op (d := 2) (.int .u64 0) (k := ?_)
  refine WL.nil ?_
  refine WX.seqN ?_
  refine WC.ret ?_
  refine WX.seqR ?_
  refine WX.ret (rs := [.tmp 2]) [.int .u64 0] (.int .u64 0) ⟨(by kernel_rfl), trivial⟩ (k := ?_)
  exact ⟨rfl, K⟩
set_option maxRecDepth 100000 in
set_option maxHeartbeats 4000000 in
theorem jnLeft_c {S : Nat → Prop} {dk jb ep nw : Nat} {k n la : Int} {rd : Bool} {st : Option (Nat × Nat)} {d : GDisk} {w : World} (hJ : JnAt S dk ⟨jb, k, n, true, ep, rd, nw, la, st, d⟩ w) (hn : 0 ≤ n ∧ n ≤ 1024) (hst : ∀ e r, st = some (e, r) → r ≤ 1024) : Calls Tryz.prog 20 #[.pointer (some ⟨jb, 0, none⟩)] w fun e w' => e = .returned (.int .i64 (lfF n st)) ∧ Adds w w' := by
  have K : Keeps (fun _ => False) w w := Keeps.refl _ w
  obtain ⟨S0, lb, sb, hd, hj, hl, hs, n1, n2, n3, hS⟩ := hJ
  dsimp only at hd hj hl hs n1 hS
  have lk0 : ∀ k, S0 k → S0 k ∨ w.heap.size ≤ k := fun k h => .inl h
  have dl_ := hd.ok.2.2.2.2.1
  have ne1 : jb ≠ lb := blk_ne hj hl (by decide)
  have ne2 : jb ≠ sb := blk_ne hj hs (by decide)
  have ne3 : lb ≠ sb := blk_ne hl hs (by decide)
  refine Calls.start Tryz.func20 rfl (by kernel_rfl) ?_
  refine WC.seq ?_
  refine WC.region ?_
  refine WL.op (d := 2) (.int .i64 0) (k := ?_)
  refine WL.nil ?_
  refine WX.seqN ?_
  refine WC.seq ?_
  refine WC.seq ?_
  refine WC.region ?_
  refine WL.op (d := 3) (.pointer (some ⟨jb, 0, none⟩)) (k := ?_)
  refine WL.callG (d := 4) (f := 19) (args := #[.pointer (some ⟨jb, 0, none⟩)]) (jnGood_c (good := true) ⟨_, _, _, hd, hj, hl, hs, n1, n2, n3, hS⟩) (k := fun e_ w4 h_ => ⟨.bool true, h_.1, ?_⟩)
  have k5 := h_.2; clear h_
  replace hd := hd.adds k5
  replace hj := k5.heap hj id
  replace hl := k5.heap hl id
  replace hs := k5.heap hs id
  replace K := K.trans (k5.any _)
  refine WL.op (d := 5) (.bool false) (k := ?_)
  refine WL.nil ?_
  refine WX.seqN ?_
  refine WC.condF (k := ?_)
  refine WC.skip ?_
  refine WX.seqN ?_
  refine WC.seq ?_
  refine WC.region ?_
  refine WL.op (d := 6) (.pointer (some ⟨jb, 0, none⟩)) (k := ?_)
  refine WL.op (d := 7) (.pointer (some ⟨jb, 0, none⟩)) (k := ?_)
  refine WL.op (d := 8) (.pointer (some ⟨jb, 0, none⟩)) (k := ?_)
  refine WL.op (d := 9) (.pointer (some ⟨jb, 0, none⟩)) (k := ?_)
  refine WL.load (v := .pointer (some ⟨lb, 0, none⟩)) (ld1 (T := 57) (i := 0) hj) (k := ?_)
  refine WL.callG (d := 11) (f := 33) (args := #[.pointer (some ⟨lb, 0, none⟩)]) (wlLeft_all (n := n) hl (by omega) hst) (k := fun e_ w6 h_ => ⟨.int .i64 (lfF n st), h_.1, ?_⟩)
  have k7 := h_.2; clear h_
  replace hd := hd.adds k7
  replace hj := k7.heap hj id
  replace hl := k7.heap hl id
  replace hs := k7.heap hs id
  replace K := K.trans (k7.any _)
  refine WL.op (d := 2) (.int .i64 (lfF n st)) (k := ?_)
  refine WL.nil ?_
  refine WX.seqN ?_
  refine WC.ret ?_
  refine WX.ret (rs := [.tmp 2]) [.int .i64 (lfF n st)] (.int .i64 (lfF n st)) ⟨(by kernel_rfl), trivial⟩ (k := ?_)
  exact ⟨rfl, K⟩
set_option maxRecDepth 100000 in
set_option maxHeartbeats 4000000 in
theorem jnLeft_nil (w : World) : Calls Tryz.prog 20 #[.pointer none] w fun e w' => e = .returned (.int .i64 0) ∧ Adds w w' := by
  have K : Keeps (fun _ => False) w w := Keeps.refl _ w
  refine Calls.start Tryz.func20 rfl (by kernel_rfl) ?_
  refine WC.seq ?_
  refine WC.region ?_
  refine WL.op (d := 2) (.int .i64 0) (k := ?_)
  refine WL.nil ?_
  refine WX.seqN ?_
  refine WC.seq ?_
  refine WC.seq ?_
  refine WC.region ?_
  refine WL.op (d := 3) (.pointer none) (k := ?_)
  refine WL.callG (d := 4) (f := 19) (args := #[.pointer none]) (jnGood_nil w) (k := fun e_ w1 h_ => ⟨.bool false, h_.1, ?_⟩)
  have k2 := h_.2; clear h_
  replace K := K.trans (k2.any _)
  refine WL.op (d := 5) (.bool true) (k := ?_)
  refine WL.nil ?_
  refine WX.seqN ?_
  refine WC.condT (k := ?_)
  refine WC.seq ?_
  refine WC.region ?_
  refine WL.op (d := 2) (.int .i64 0) (k := ?_)
  refine WL.nil ?_
  refine WX.seqN ?_
  refine WC.ret ?_
  refine WX.seqR ?_
  refine WX.ret (rs := [.tmp 2]) [.int .i64 0] (.int .i64 0) ⟨(by kernel_rfl), trivial⟩ (k := ?_)
  exact ⟨rfl, K⟩
set_option maxRecDepth 100000 in
set_option maxHeartbeats 4000000 in
theorem jnApp_nil {l : List UInt8} (w : World) : Calls Tryz.prog 11 #[.pointer none, .string ⟨l.toArray⟩] w fun e w' => e = .returned (.int .i64 1) ∧ Adds w w' := by
  have K : Keeps (fun _ => False) w w := Keeps.refl _ w
  refine Calls.startM Tryz.func11 rfl (by kernel_rfl) ?_
  refine WC.seq ?_
  refine WC.region ?_
  refine WL.new (d := 2) (T := 25) #[.pointer none] (k := fun b1 w2 g3 hb4 k5 => ?_)
  have z6 := Nat.le_trans K.size g3
  replace K := K.trans (k5.any _)
  refine WL.new (d := 4) (T := 26) #[.int .i64 0] (k := fun b7 w8 g9 hb10 k11 => ?_)
  have z12 := Nat.le_trans K.size g9
  have n13 : b1 ≠ b7 := Nat.ne_of_lt (Nat.lt_of_lt_of_le (lt_of_heap hb4) g9)
  replace hb4 := k11.heap hb4 id
  replace K := K.trans (k11.any _)
  refine WL.nil ?_
  refine WX.seqN ?_
  refine WC.seq ?_
  refine WC.block ?_
  refine WC.seq ?_
  refine WC.region ?_
  refine WL.load (v := .pointer none) (ld1 (T := 25) (i := 0) hb4) (k := ?_)
  refine WL.op (d := 7) (.bool true) (k := ?_)
  refine WL.op (d := 8) (.bool true) (k := ?_)
  refine WL.skip (d := 9) (k := ?_)
  refine WL.skip (d := 10) (k := ?_)
  refine WL.skip (d := 11) (k := ?_)
  refine WL.op (d := 12) (.bool true) (k := ?_)
  refine WL.op (d := 5) (.bool true) (k := ?_)
  refine WL.nil ?_
  refine WX.seqN ?_
  refine WC.condT (k := ?_)
  refine WC.seq ?_
  refine WC.region ?_
  refine WL.store (v := .int .i64 1) (i := 0) (cs' := #[.int .i64 1]) hb10 (k := fun w14 hb15 k16 => ?_)
  replace hb4 := k16.heap hb4 n13
  replace K := K.trans' k16 (fun i hi e => absurd (e ▸ hi) (Nat.not_lt.2 z12))
  clear hb10
  refine WL.nil ?_
  refine WX.seqN ?_
  refine WC.ret ?_
  refine WX.blockR ?_
  refine WX.seqR ?_
  refine WX.retM0 (rs := [.cell 4 26]) [.int .i64 1] (.int .i64 1) ⟨⟨_, (by kernel_rfl), ld1 (T := 26) (i := 0) hb15⟩, trivial⟩ rfl rfl ?_
  exact ⟨rfl, K⟩
set_option maxRecDepth 100000 in
set_option maxHeartbeats 4000000 in
theorem jnSnap_nil {l : List UInt8} (w : World) : Calls Tryz.prog 18 #[.pointer none, .string ⟨l.toArray⟩] w fun e w' => e = .returned (.int .i64 1) ∧ Adds w w' := by
  have K : Keeps (fun _ => False) w w := Keeps.refl _ w
  refine Calls.startM Tryz.func18 rfl (by kernel_rfl) ?_
  refine WC.seq ?_
  refine WC.region ?_
  refine WL.new (d := 2) (T := 25) #[.pointer none] (k := fun b1 w2 g3 hb4 k5 => ?_)
  have z6 := Nat.le_trans K.size g3
  replace K := K.trans (k5.any _)
  refine WL.new (d := 4) (T := 26) #[.int .i64 0] (k := fun b7 w8 g9 hb10 k11 => ?_)
  have z12 := Nat.le_trans K.size g9
  have n13 : b1 ≠ b7 := Nat.ne_of_lt (Nat.lt_of_lt_of_le (lt_of_heap hb4) g9)
  replace hb4 := k11.heap hb4 id
  replace K := K.trans (k11.any _)
  refine WL.nil ?_
  refine WX.seqN ?_
  refine WC.seq ?_
  refine WC.block ?_
  refine WC.seq ?_
  refine WC.region ?_
  refine WL.load (v := .pointer none) (ld1 (T := 25) (i := 0) hb4) (k := ?_)
  refine WL.op (d := 8) (.bool true) (k := ?_)
  refine WL.op (d := 9) (.bool true) (k := ?_)
  refine WL.skip (d := 10) (k := ?_)
  refine WL.skip (d := 11) (k := ?_)
  refine WL.skip (d := 12) (k := ?_)
  refine WL.skip (d := 13) (k := ?_)
  refine WL.skip (d := 14) (k := ?_)
  refine WL.skip (d := 15) (k := ?_)
  refine WL.skip (d := 16) (k := ?_)
  refine WL.skip (d := 17) (k := ?_)
  refine WL.op (d := 18) (.bool true) (k := ?_)
  refine WL.op (d := 6) (.bool true) (k := ?_)
  refine WL.nil ?_
  refine WX.seqN ?_
  refine WC.condT (k := ?_)
  refine WC.seq ?_
  refine WC.region ?_
  refine WL.store (v := .int .i64 1) (i := 0) (cs' := #[.int .i64 1]) hb10 (k := fun w14 hb15 k16 => ?_)
  replace hb4 := k16.heap hb4 n13
  replace K := K.trans' k16 (fun i hi e => absurd (e ▸ hi) (Nat.not_lt.2 z12))
  clear hb10
  refine WL.nil ?_
  refine WX.seqN ?_
  refine WC.ret ?_
  refine WX.blockR ?_
  refine WX.seqR ?_
  refine WX.retM0 (rs := [.cell 4 26]) [.int .i64 1] (.int .i64 1) ⟨⟨_, (by kernel_rfl), ld1 (T := 26) (i := 0) hb15⟩, trivial⟩ rfl rfl ?_
  exact ⟨rfl, K⟩
end Go.Proofs.YtnndkgmcjbnfbaaGreatDoor
namespace Go.Proofs.YtnndkgmcjbnfbaaGreatDoor
open Go.RowKit
set_option linter.unusedVariables false
set_option linter.unusedSimpArgs false
def tkN (f : Int) (c : Nat) : Int := if f = 0 then 0 else f - c
def rcN (r : Int) : Nat → Int
  | 0 => r
  | c + 1 => rcN (IntKind.i64.wrap (r + 1)) c
theorem rcN_add (r : Int) : ∀ a b : Nat, rcN (rcN r a) b = rcN r (a + b)
  | 0, b => by rw [Nat.zero_add]; rfl
  | a + 1, b => by rw [Nat.add_right_comm, rcN, rcN, rcN_add _ a b]
theorem rcN_eq : ∀ (c : Nat) (r : Int), 0 ≤ r → r + c ≤ 1000000 → rcN r c = r + c
  | 0, r, _, _ => by simp [rcN]
  | c + 1, r, h0, h1 => by
    rw [rcN, IntWalk.i64_in _ (by omega), rcN_eq c _ (by omega) (by omega)]; omega
theorem tkN_tick {f : Int} {c : Nat} (h : f = 0 ∨ ((c + 1 : Nat) : Int) < f) : tkN (tickF f) c = tkN f (c + 1) ∧ (tickF f = 0 ∨ (c : Int) < tickF f) ∧ ¬ f = 1 := by
  unfold tkN tickF
  rcases h with rfl | h
  · exact ⟨rfl, .inl rfl, by decide⟩
  · rw [if_neg (by omega), if_neg (by omega), if_neg (by omega)]
    exact ⟨by omega, .inr (by omega), by omega⟩
theorem slot_any {a : Int} : ∀ (f i : Nat) (is : Bool) (ep nw : Nat) (dt : List UInt8) (d : GDisk), (d.fail = 0 ∨ (f : Int) < d.fail) → (∀ j : Nat, i ≤ j → j < i + f → d.has (a + (j : Int))) →
    slotGo a f i is ep dt nw d = ⟨(slV i is ep dt nw ((List.range' i f).map fun j : Nat => d.at_ (a + (j : Int)))).1, (slV i is ep dt nw ((List.range' i f).map fun j : Nat => d.at_ (a + (j : Int)))).2.1, (slV i is ep dt nw ((List.range' i f).map fun j : Nat => d.at_ (a + (j : Int)))).2.2.1, (slV i is ep dt nw ((List.range' i f).map fun j : Nat => d.at_ (a + (j : Int)))).2.2.2, ⟨d.secs, d.opn, tkN d.fail f, rcN d.reads f⟩, 0⟩
  | 0, i, is, ep, nw, dt, d, hf, _ => by
    have : tkN d.fail 0 = d.fail := by unfold tkN; split <;> omega
    rw [this]; rfl
  | f + 1, i, is, ep, nw, dt, d, hf, ha => by
    obtain ⟨t1, t2, t3⟩ := tkN_tick hf
    obtain ⟨e1, e2, e3⟩ := GDisk.read_ok (ha i (Nat.le_refl _) (by omega)) t3
    rw [slotGo, if_pos e2, e1, e3, slot_any f (i + 1) _ _ _ _ ⟨d.secs, d.opn, tickF d.fail, IntKind.i64.wrap (d.reads + 1)⟩ t2 (fun j h1 h2 => ha j (by omega) (by omega))]
    simp only [t1]
    rfl
theorem slot_bad {a : Int} : ∀ (f i : Nat) (is : Bool) (ep nw : Nat) (dt : List UInt8) (d : GDisk), 1 ≤ d.fail → d.fail ≤ (f : Int) → (∀ j : Nat, i ≤ j → j < i + f → d.has (a + (j : Int))) → (slotGo a f i is ep dt nw d).bad = 18
  | 0, i, is, ep, nw, dt, d, h1, h2, _ => by omega
  | f + 1, i, is, ep, nw, dt, d, h1, h2, ha => by
    by_cases hf : d.fail = 1
    · obtain ⟨e1, e2, e3⟩ := GDisk.read_io (ha i (Nat.le_refl _) (by omega)) hf
      rw [slotGo, if_neg (by rw [e2]; decide)]; exact e2
    · obtain ⟨e1, e2, e3⟩ := GDisk.read_ok (ha i (Nat.le_refl _) (by omega)) hf
      have ht : tickF d.fail = d.fail - 1 := if_neg (by omega)
      rw [slotGo, if_pos e2, e3]
      exact slot_bad f (i + 1) _ _ _ _ _ (by show 1 ≤ tickF d.fail; omega) (by show tickF d.fail ≤ _; omega) (fun j h1 h2 => ha j (by omega) (by omega))
section
variable {n i E : Nat} {ss ls : List (List UInt8)} {T : List UInt8} {L f rd : Int}
theorem SSt.le (h : SSt n i ss E T L) (n0 : 0 < n) (he : ¬ E = 0) {N : Nat} (hN : ∀ s ∈ ss, epS s ≤ N) (hi : i < 256) : E ≤ N := by
  obtain ⟨xs, ys, rfl, h⟩ := h
  have key : ∀ zs, zs = slotL n E T → (∀ s ∈ zs, epS s ≤ N) → E ≤ i → E ≤ N := fun zs hz hs hEi => by
    have hl : 0 < zs.length := by rw [hz]; simpa [slotL] using n0
    obtain ⟨a1, a2⟩ := slotL_all (k := n) (t := T) (show E < 18446744073709551616 by omega) zs[0] (by rw [← hz]; exact List.getElem_mem hl)
    rw [← a2]; exact hs _ (List.getElem_mem hl)
  rcases h.how with ⟨_, h0, _⟩ | ⟨_, _, h2, _, h4, _⟩ | ⟨_, _, h2, _, h4, _⟩
  · exact absurd h0 he
  · exact key xs h4 (fun s hs => hN s (List.mem_append_left _ hs)) h2
  · exact key ys h4 (fun s hs => hN s (List.mem_append_right _ hs)) h2
theorem view_a {A B : List (List UInt8)} {k : Int} (h : A.length = k.toNat) (f rd : Int) : ((List.range' 0 k.toNat).map fun j : Nat => GDisk.at_ ⟨A ++ B, [], f, rd⟩ (0 + 0 + (j : Int))) = A := view0 h
theorem view_b {A B C : List (List UInt8)} {k : Int} (h : A.length = k.toNat) (h2 : B.length = k.toNat) (k0 : 0 ≤ k) (f rd : Int) : ((List.range' 0 k.toNat).map fun j : Nat => GDisk.at_ ⟨A ++ (B ++ C), [], f, rd⟩ (0 + k + (j : Int))) = B := by
  apply List.ext_getElem
  · simp [h2]
  · intro i h3 h4
    have e : ((0 : Int) + k + (i : Int)).toNat = A.length + i := by omega
    simp only [List.getElem_map, List.getElem_range', GDisk.at_, List.foldl_nil, Nat.zero_add, Nat.one_mul, e]
    rw [List.getD_eq_getElem?_getD, List.getElem?_append_right (by omega), Nat.add_sub_cancel_left, List.getElem?_append_left h4, List.getElem?_eq_getElem h4]; rfl
theorem rdF_ok (h : SSt n i ss E T L) (n0 : 0 < n) (n1 : n ≤ 64) (hi : i < 256) (hf : f = 0 ∨ ((2 * n : Nat) : Int) < f) :
    ∃ N, rdF 0 (n : Int) ⟨ss ++ ls, [], f, rd⟩ = ⟨E, T, 0, true, N, L, ⟨ss ++ ls, [], tkN f (2 * n), rcN rd (2 * n)⟩⟩ ∧ N ≤ i ∧ ∀ s ∈ ss, epS s ≤ N := by
  have hlen := h.len
  obtain ⟨xs, ys, rfl, h⟩ := h
  obtain ⟨N, t1, t2, t3⟩ := h.tell n0 n1 hi
  refine ⟨N, ?_, t2, t3⟩
  have s0 := slot_any (a := 0 + 0) (n : Int).toNat 0 true 0 0 [] ⟨xs ++ ys ++ ls, [], f, rd⟩ (by rw [Int.toNat_natCast]; show f = 0 ∨ (n : Int) < f; omega) (fun j h1 h2 => ⟨by omega, by show _ < ((xs ++ ys ++ ls).length : Int); rw [List.length_append, hlen]; omega⟩)
  have s1 := slot_any (a := 0 + (n : Int)) (n : Int).toNat 0 true 0 (slV 0 true 0 [] 0 xs).2.2.2 [] ⟨xs ++ ys ++ ls, [], tkN f n, rcN rd n⟩ (by rw [Int.toNat_natCast]; show tkN f n = 0 ∨ (n : Int) < tkN f n; unfold tkN; split <;> omega) (fun j h1 h2 => ⟨by omega, by show _ < ((xs ++ ys ++ ls).length : Int); rw [List.length_append, hlen]; omega⟩)
  have hx : ((List.range' 0 (n : Int).toNat).map fun j : Nat => GDisk.at_ ⟨xs ++ ys ++ ls, [], f, rd⟩ (0 + 0 + (j : Int))) = xs := by
    rw [List.append_assoc]; exact view_a (by rw [h.lx]; omega) f rd
  have hy : ((List.range' 0 (n : Int).toNat).map fun j : Nat => GDisk.at_ ⟨xs ++ ys ++ ls, [], tkN f n, rcN rd n⟩ (0 + (n : Int) + (j : Int))) = ys := by
    rw [List.append_assoc]; exact view_b (by rw [h.lx]; omega) (by rw [h.ly]; omega) (by omega) _ _
  rw [hx] at s0
  rw [hy] at s1
  simp only [Int.toNat_natCast] at s0 s1
  have etk : tkN (tkN f n) n = tkN f (2 * n) := by unfold tkN; rcases hf with rfl | hf <;> simp <;> (try (split <;> omega))
  have erc : rcN (rcN rd n) n = rcN rd (2 * n) := by rw [rcN_add]; congr 1; omega
  rw [etk, erc] at s1
  obtain ⟨e1, e2⟩ := svr_val (slV 0 true 0 [] 0 xs) ⟨xs ++ ys ++ ls, [], tkN f n, rcN rd n⟩
  obtain ⟨e3, e4⟩ := svr_val (slV 0 true 0 [] (slV 0 true 0 [] 0 xs).2.2.2 ys) ⟨xs ++ ys ++ ls, [], tkN f (2 * n), rcN rd (2 * n)⟩
  simp only [tellV, Prod.mk.injEq] at t1
  obtain ⟨q1, q2, q3, q4⟩ := t1
  rw [rdF]
  simp only [Int.toNat_natCast]
  rw [s0, s1, rdX, if_neg (fun h => h rfl), if_neg (fun h => h rfl), pickE, pickT, pickL, e1, e2, e3, e4, q1, q2, q3]
  simp only [q4]
theorem rdF_bad (h : SSt n i ss E T L) (n0 : 0 < n) (n1 : n ≤ 64) (h1 : 1 ≤ f) (h2 : f ≤ ((2 * n : Nat) : Int)) : (rdF 0 (n : Int) ⟨ss ++ ls, [], f, rd⟩).bad = 18 := by
  have hlen := h.len
  by_cases hf : f ≤ n
  · have s0 := slot_bad (a := 0 + 0) (n : Int).toNat 0 true 0 0 [] ⟨ss ++ ls, [], f, rd⟩ h1 (by show f ≤ _; omega) (fun j h1 h2 => ⟨by omega, by show _ < ((ss ++ ls).length : Int); rw [List.length_append, hlen]; omega⟩)
    rw [rdF, rdX, if_pos (by rw [s0]; decide)]; exact s0
  · have s0 := slot_any (a := 0 + 0) (n : Int).toNat 0 true 0 0 [] ⟨ss ++ ls, [], f, rd⟩ (by rw [Int.toNat_natCast]; show f = 0 ∨ (n : Int) < f; omega) (fun j h1 h2 => ⟨by omega, by show _ < ((ss ++ ls).length : Int); rw [List.length_append, hlen]; omega⟩)
    rw [rdF, rdX, if_neg (fun k => k (by rw [s0]))]
    have s1 : ∀ nw, (slotGo (0 + (n : Int)) (n : Int).toNat 0 true 0 [] nw (slotGo (0 + 0) (n : Int).toNat 0 true 0 [] 0 ⟨ss ++ ls, [], f, rd⟩).d).bad = 18 := fun nw => by
      rw [s0]
      refine slot_bad _ _ _ _ _ _ _ ?_ ?_ (fun j h1 h2 => ⟨by omega, by show _ < ((ss ++ ls).length : Int); rw [List.length_append, hlen]; omega⟩)
      · show 1 ≤ tkN f (n : Int).toNat; unfold tkN; split <;> omega
      · show tkN f (n : Int).toNat ≤ _; unfold tkN; split <;> omega
    rw [if_pos (by rw [s1]; decide)]; exact s1 _
end
section
variable {n e : Nat} {ss ls xs : List (List UInt8)}
theorem sec_at {j : Nat} (hj : j < ls.length) (f rd : Int) {a : Int} (ha : a = (ss.length : Int)) : (⟨ss ++ ls, [], f, rd⟩ : GDisk).at_ (a + (j : Int)) = ls.getD j [] := by
  have e : (a + (j : Int)).toNat = ss.length + j := by omega
  simp only [GDisk.at_, List.foldl_nil, e]
  rw [List.getD_eq_getElem?_getD, List.getElem?_append_right (by omega), Nat.add_sub_cancel_left, List.getD_eq_getElem?_getD]
abbrev cntS (n : Nat) (xs : List (List UInt8)) : Nat := min (xs.length + 1) n
theorem scan_any (h : LayE n e ls xs) (he : e < 18446744073709551616) (hn : n ≤ 1024) {a : Int} (ha : a = (ss.length : Int)) : ∀ (m j : Nat) (f rd : Int), n = j + m → j ≤ xs.length → (f = 0 ∨ ((cntS n xs - j : Nat) : Int) < f) →
    scanGo a e m ⟨ss ++ ls, [], f, rd⟩ (xs.take j) = (xs, 0, ⟨ss ++ ls, [], tkN f (cntS n xs - j), rcN rd (cntS n xs - j)⟩)
  | 0, j, f, rd, hm, hj, hf => by
    have hc := h.cnt
    have : cntS n xs - j = 0 := by unfold cntS; omega
    rw [this, scanGo, List.take_of_length_le (by omega)]
    have : tkN f 0 = f := by unfold tkN; split <;> omega
    rw [this]; rfl
  | m + 1, j, f, rd, hm, hj, hf => by
    have hc := h.cnt
    have hlen := h.len
    have ho : ((xs.take j).length : Int) = (j : Int) := by rw [List.length_take]; omega
    have hhas : (⟨ss ++ ls, [], f, rd⟩ : GDisk).has (a + (j : Int)) := ⟨by omega, by show _ < ((ss ++ ls).length : Int); rw [List.length_append]; omega⟩
    have c1 : cntS n xs - j = (cntS n xs - (j + 1)) + 1 := by unfold cntS; omega
    rw [c1] at hf
    obtain ⟨t1, t2, t3⟩ := tkN_tick hf
    obtain ⟨e1, e2, e3⟩ := GDisk.read_ok hhas t3
    have hg : ls[j]? = some (ls.getD j []) := by rw [List.getD_eq_getElem?_getD, List.getElem?_eq_getElem (by omega)]; rfl
    have hat := sec_at (ss := ss) (ls := ls) (j := j) (by omega) f rd ha
    rw [scanGo, ho, Int.toNat_natCast]
    by_cases hjx : j < xs.length
    · obtain ⟨p1, p2⟩ := h.put_ j xs[j] (List.getElem?_eq_getElem hjx)
      rw [hg] at p1
      have p1 := Option.some.inj p1
      rw [p1] at hat
      obtain ⟨r1, r2, r3, r4⟩ := rd_mk (e := e) (n := j) p2 he (by omega)
      have hp : (⟨ss ++ ls, [], f, rd⟩ : GDisk).recP (a + (j : Int)) e j := ⟨e2, by rw [e1, hat]; exact ⟨of_decide_eq_true r4, r2, r3⟩⟩
      have ht : (⟨ss ++ ls, [], f, rd⟩ : GDisk).recT (a + (j : Int)) e j = xs[j] := by rw [GDisk.recT, if_pos hp, e1, hat]; exact r1
      rw [if_pos hp, ht, e3, ← List.take_succ_eq_append_getElem hjx]
      rw [scan_any h he hn ha m (j + 1) _ _ (by omega) (by omega) t2]
      rw [t1, ← c1, c1]; rfl
    · have hjl : j = xs.length := by omega
      have hp : ¬ (⟨ss ++ ls, [], f, rd⟩ : GDisk).recP (a + (j : Int)) e j := fun k => by
        obtain ⟨_, k2, k3, k4⟩ := k
        rw [e1, hat] at k2 k3 k4
        rw [rdE, if_pos k2] at k3
        rw [rdN, if_pos k2] at k4
        exact h.off j _ (by omega) hg ⟨k3, k4⟩
      rw [if_neg hp, e2, e3, List.take_of_length_le (by omega)]
      have c2 : cntS n xs - (j + 1) = 0 := by unfold cntS; omega
      rw [c2] at t1 c1
      rw [c1, ← t1]
      have : tkN (tickF f) 0 = tickF f := by unfold tkN; split <;> omega
      rw [this]; rfl
theorem scan_bad (h : LayE n e ls xs) (he : e < 18446744073709551616) (hn : n ≤ 1024) {a : Int} (ha : a = (ss.length : Int)) : ∀ (m j : Nat) (f rd : Int), n = j + m → j ≤ xs.length → 1 ≤ f → f ≤ ((cntS n xs - j : Nat) : Int) →
    (scanGo a e m ⟨ss ++ ls, [], f, rd⟩ (xs.take j)).2.1 = 18
  | 0, j, f, rd, hm, hj, h1, h2 => by
    have hc := h.cnt
    have : cntS n xs - j = 0 := by unfold cntS; omega
    omega
  | m + 1, j, f, rd, hm, hj, h1, h2 => by
    have hc := h.cnt
    have hlen := h.len
    have ho : ((xs.take j).length : Int) = (j : Int) := by rw [List.length_take]; omega
    have hhas : (⟨ss ++ ls, [], f, rd⟩ : GDisk).has (a + (j : Int)) := ⟨by omega, by show _ < ((ss ++ ls).length : Int); rw [List.length_append]; omega⟩
    have c1 : cntS n xs - j = (cntS n xs - (j + 1)) + 1 := by unfold cntS; omega
    have hg : ls[j]? = some (ls.getD j []) := by rw [List.getD_eq_getElem?_getD, List.getElem?_eq_getElem (by omega)]; rfl
    have hat := sec_at (ss := ss) (ls := ls) (j := j) (by omega) f rd ha
    rw [scanGo, ho, Int.toNat_natCast]
    by_cases hf : f = 1
    · obtain ⟨e1, e2, e3⟩ := GDisk.read_io hhas hf
      rw [if_neg (fun k => by have := k.1; rw [e2] at this; cases this)]; exact e2
    · obtain ⟨e1, e2, e3⟩ := GDisk.read_ok hhas hf
      have ht : tickF f = f - 1 := if_neg (by omega)
      have hjx : j < xs.length := by unfold cntS at h2; omega
      obtain ⟨p1, p2⟩ := h.put_ j xs[j] (List.getElem?_eq_getElem hjx)
      rw [hg] at p1
      have p1 := Option.some.inj p1
      rw [p1] at hat
      obtain ⟨r1, r2, r3, r4⟩ := rd_mk (e := e) (n := j) p2 he (by omega)
      have hp : (⟨ss ++ ls, [], f, rd⟩ : GDisk).recP (a + (j : Int)) e j := ⟨e2, by rw [e1, hat]; exact ⟨of_decide_eq_true r4, r2, r3⟩⟩
      have hT : (⟨ss ++ ls, [], f, rd⟩ : GDisk).recT (a + (j : Int)) e j = xs[j] := by rw [GDisk.recT, if_pos hp, e1, hat]; exact r1
      rw [if_pos hp, hT, e3, ← List.take_succ_eq_append_getElem hjx]
      exact scan_bad h he hn ha m (j + 1) _ _ (by omega) (by omega) (by show 1 ≤ tickF f; omega) (by show tickF f ≤ _; omega)
theorem scF_ok (h : LayE n e ls xs) (he : e < 18446744073709551616) (hn : n ≤ 1024) {a f rd : Int} (ha : a = (ss.length : Int)) (hf : f = 0 ∨ ((cntS n xs : Nat) : Int) < f) :
    scF a (n : Int) e ⟨ss ++ ls, [], f, rd⟩ = ⟨xs, 0, some (e, xs.length), ⟨ss ++ ls, [], tkN f (cntS n xs), rcN rd (cntS n xs)⟩⟩ := by
  have := scan_any h he hn ha n 0 f rd (by omega) (Nat.zero_le _) hf
  rw [List.take_zero, Nat.sub_zero] at this
  rw [scF, Int.toNat_natCast, this]; rfl
theorem scF_bad (h : LayE n e ls xs) (he : e < 18446744073709551616) (hn : n ≤ 1024) {a f rd : Int} (ha : a = (ss.length : Int)) (h1 : 1 ≤ f) (h2 : f ≤ ((cntS n xs : Nat) : Int)) : (scF a (n : Int) e ⟨ss ++ ls, [], f, rd⟩).bad = 18 := by
  have := scan_bad h he hn ha n 0 f rd (by omega) (Nat.zero_le _) h1 (by rw [Nat.sub_zero]; exact h2)
  rw [List.take_zero] at this
  rw [scF, Int.toNat_natCast, if_neg (by rw [this]; decide)]; exact this
end
end Go.Proofs.YtnndkgmcjbnfbaaGreatDoor
namespace Go.Proofs.YtnndkgmcjbnfbaaGreatDoor
open Go.RowKit
set_option linter.unusedVariables false
set_option linter.unusedSimpArgs false
theorem put_app {ls : List (List UInt8)} : ∀ {o : List (Int × List UInt8)} {ss : List (List UInt8)}, (∀ x ∈ o, x.1.toNat < ss.length) → o.foldl GDisk.put (ss ++ ls) = o.foldl GDisk.put ss ++ ls
  | [], ss, _ => rfl
  | x :: o, ss, h => by
    have hx := h x (List.mem_cons_self ..)
    rw [List.foldl_cons, List.foldl_cons, GDisk.put, List.set_append_left _ _ hx]
    exact put_app (ss := ss.set x.1.toNat x.2) (fun y hy => by rw [List.length_set]; exact h y (List.mem_cons_of_mem _ hy))
theorem crash_app {fs : List (Int × Int)} {o : List (Int × List UInt8)} {ss ls : List (List UInt8)} (h : ∀ x ∈ o, x.1.toNat < ss.length) : ∀ i : Nat, (crashN fs o (ss ++ ls) i).1 = (crashN fs o ss i).1 ++ ls
  | 0 => rfl
  | i + 1 => by
    cases ho : o[i]? with
    | none => rw [crashN, crashN, ho]; exact crash_app h i
    | some x =>
      have hx := h x (List.mem_of_getElem? ho)
      have hl := crashN_len (fs := fs) (o := o) (s0 := ss) i
      rw [crashN_succ ho, crashN_succ ho]
      simp only [crash_app h i]
      have e1 : ((crashN fs o ss i).1 ++ ls).getD x.1.toNat [] = (crashN fs o ss i).1.getD x.1.toNat [] := by
        rw [List.getD_eq_getElem?_getD, List.getD_eq_getElem?_getD, List.getElem?_append_left (by omega)]
      rw [e1, List.set_append_left _ _ (by omega)]
theorem mixS_full {x old : List UInt8} (hx : x.length = 64) (ho : old.length ≤ 64) : mixS 64 x old = x := by
  have e : (64 : Int).toNat = 64 := rfl
  rw [mixS, e, List.take_of_length_le (by omega), List.drop_of_length_le ho, List.append_nil]
theorem crash_full {o : List (Int × List UInt8)} {s0 : List (List UInt8)} (ho : ∀ x ∈ o, x.2.length = 64) (hs : ∀ s ∈ s0, s.length = 64) : ∀ i : Nat, i ≤ o.length → (crashN (List.replicate o.length (1, 0)) o s0 i).1 = (o.take i).foldl GDisk.put s0
  | 0, _ => rfl
  | i + 1, hi => by
    have hg : o[i]? = some o[i] := List.getElem?_eq_getElem (by omega)
    rw [crashN_succ hg, List.take_succ_eq_append_getElem (by omega), List.foldl_append]
    simp only [crash_full ho hs i (by omega), List.foldl_cons, List.foldl_nil]
    have hf : fateF (List.replicate o.length (1, 0)) i = 64 := by
      rw [fateF_some (f := (1, 0)) (by rw [List.getElem?_replicate, if_pos (by omega)])]; decide
    have hold : (((o.take i).foldl GDisk.put s0).getD o[i].1.toNat []).length ≤ 64 := by
      rw [List.getD_eq_getElem?_getD]
      cases h : ((o.take i).foldl GDisk.put s0)[o[i].1.toNat]? with
      | none => simp
      | some q =>
        have := GDisk.puts_all (l := o.take i) (secs := s0) (fun x hx => ho x (List.mem_of_mem_take hx)) hs q (List.mem_of_getElem? h)
        simp [this]
    rw [hf, mixS_full (ho _ (List.getElem_mem _)) hold]; rfl
structure JDk (k n i E : Nat) (T : List UInt8) (L : Int) (xs ss ls : List (List UInt8)) : Prop where
  sl : SSt k i ss E T L
  lay : LayE n E ls xs
  lt : ∀ s ∈ ls, epS s ≤ E
  ne : ¬ E = 0
theorem SSt.mono {k i i' E : Nat} {ss : List (List UInt8)} {T : List UInt8} {L : Int} (h : SSt k i ss E T L) (hi : i ≤ i') : SSt k i' ss E T L := by
  obtain ⟨xs, ys, rfl, h⟩ := h
  refine ⟨xs, ys, rfl, h.lx, h.ly, fun s hs => ⟨(h.all s hs).1, Nat.le_trans (h.all s hs).2 hi⟩, ?_⟩
  rcases h.how with q | ⟨q1, q2, q3, q4⟩ | ⟨q1, q2, q3, q4⟩
  · exact .inl q
  · exact .inr (.inl ⟨q1, q2, Nat.le_trans q3 hi, q4⟩)
  · exact .inr (.inr ⟨q1, q2, Nat.le_trans q3 hi, q4⟩)
theorem SSt.all {k i E : Nat} {ss : List (List UInt8)} {T : List UInt8} {L : Int} (h : SSt k i ss E T L) : ∀ s ∈ ss, s.length = 64 := by
  obtain ⟨xs, ys, rfl, h⟩ := h; exact fun s hs => (h.all s hs).1
theorem SSt.ep {k i E : Nat} {ss : List (List UInt8)} {T : List UInt8} {L : Int} (h : SSt k i ss E T L) : E ≤ i := by
  obtain ⟨xs, ys, rfl, h⟩ := h
  rcases h.how with ⟨_, q, _⟩ | ⟨_, _, q, _⟩ | ⟨_, _, q, _⟩
  · omega
  · exact q
  · exact q
section
variable {k n i E : Nat} {T : List UInt8} {L : Int} {xs ss ls : List (List UInt8)}
theorem JDk.mono (h : JDk k n i E T L xs ss ls) {i' : Nat} (hi : i ≤ i') : JDk k n i' E T L xs ss ls := ⟨h.sl.mono hi, h.lay, h.lt, h.ne⟩
theorem makeS_ep {l : List UInt8} {e j : Nat} (hl : l.length ≤ 43) (he : e < 256) : epS (makeS l e j) = e := make_ep hl (by omega)
theorem JDk.put (h : JDk k n i E T L xs ss ls) {l : List UInt8} (hl : l.length ≤ 43) (hn : xs.length < n) (hE : E < 256) : JDk k n i E T L (xs ++ [l]) ss (ls.set xs.length (makeS l E xs.length)) := by
  refine ⟨h.sl, h.lay.put hl hn, fun s hs => ?_, h.ne⟩
  rcases List.mem_or_eq_of_mem_set hs with hs | rfl
  · exact h.lt s hs
  · rw [makeS_ep hl hE]; exact Nat.le_refl _
theorem JDk.mix (h : JDk k n i E T L xs ss ls) {l : List UInt8} (hl : l.length ≤ 43) (hn : xs.length < n) (hn2 : n ≤ 1024) (hE : E < 256) {c : Int} (c0 : 0 ≤ c) (c1 : c ≤ 64) :
    JDk k n i E T L (xs ++ [l]) ss (ls.set xs.length (mixS c (makeS l E xs.length) (ls.getD xs.length []))) ∨ JDk k n i E T L xs ss (ls.set xs.length (mixS c (makeS l E xs.length) (ls.getD xs.length []))) := by
  have hlt : ∀ s ∈ ls.set xs.length (mixS c (makeS l E xs.length) (ls.getD xs.length [])), epS s ≤ E := fun s hs => by
    rcases List.mem_or_eq_of_mem_set hs with hs | rfl
    · exact h.lt s hs
    · have hj : xs.length < ls.length := by rw [h.lay.len]; exact hn
      have hg : ls.getD xs.length [] ∈ ls := by rw [List.getD_eq_getElem?_getD, List.getElem?_eq_getElem hj]; exact List.getElem_mem hj
      have h1 := h.lt _ hg
      have := mix_tag (p := l) (old := ls.getD xs.length []) (e := E) (n := xs.length) (k := c.toNat) hl (h.lay.all _ hg) (by omega) hE (by omega)
      unfold mixS; omega
  exact (h.lay.mix hl hn hn2 (by omega) c0 c1).imp (fun q => ⟨h.sl, q, hlt, h.ne⟩) (fun q => ⟨h.sl, q, hlt, h.ne⟩)
theorem LayE.fresh {e e' : Nat} (h : LayE n e ls xs) (hlt : ∀ s ∈ ls, epS s < e') : LayE n e' ls [] :=
  ⟨h.len, h.all, Nat.zero_le _, fun i x hx => by simp at hx, fun j s _ hs q => by
    have := hlt s (List.mem_of_getElem? hs); omega⟩
end
structure JG where
  k : Nat
  n : Nat
  i : Nat
  jb : Nat
  f : Int
  rd : Int
  E : Nat
  T : List UInt8
  xs : List (List UInt8)
def JgAt (S : Nat → Prop) (dk : Nat) (X : JG) (w : World) : Prop := ∃ N L ss ls, JnAt S dk ⟨X.jb, (X.k : Int), (X.n : Int), true, X.E, true, N, L, some (X.E, X.xs.length), ⟨ss ++ ls, [], X.f, X.rd⟩⟩ w ∧ JDk X.k X.n X.i X.E X.T L X.xs ss ls ∧ N ≤ X.i ∧ (∀ s ∈ ss, epS s ≤ N) ∧ 0 < X.k ∧ X.k ≤ 64 ∧ 0 < X.n ∧ X.n ≤ 512 ∧ X.i < 250
def JgPost (S : Nat → Prop) (dk : Nat) (X : JG) (w w' : World) : Prop := ∃ S', JgAt S' dk X w' ∧ (∀ i, S' i → S i ∨ w.heap.size ≤ i) ∧ Keeps S w w'
theorem JgAt.keeps {S S' : Nat → Prop} {dk : Nat} {X : JG} {w w' : World} (h : JgAt S dk X w) (k : Keeps S' w w') (hn : ∀ i, S i → ¬ S' i) : JgAt S dk X w' := by
  obtain ⟨N, L, ss, ls, h1, h2⟩ := h; exact ⟨N, L, ss, ls, h1.keeps k hn, h2⟩
theorem JgAt.adds {S : Nat → Prop} {dk : Nat} {X : JG} {w w' : World} (h : JgAt S dk X w) (k : Adds w w') : JgAt S dk X w' := h.keeps k (fun _ _ x => x)
theorem JgAt.lt {S : Nat → Prop} {dk : Nat} {X : JG} {w : World} (h : JgAt S dk X w) : ∀ i, S i → i < w.heap.size := by
  obtain ⟨N, L, ss, ls, h1, h2⟩ := h; exact h1.lt
theorem JgAt.cnt {S : Nat → Prop} {dk : Nat} {X : JG} {w : World} (h : JgAt S dk X w) : X.xs.length ≤ X.n := by
  obtain ⟨N, L, ss, ls, h1, h2, _⟩ := h; exact h2.lay.cnt
theorem JgAt.ne {S : Nat → Prop} {dk : Nat} {X : JG} {w : World} (h : JgAt S dk X w) : ¬ X.E = 0 ∧ X.E ≤ X.i ∧ X.i < 250 := by
  obtain ⟨N, L, ss, ls, h1, h2, _, _, _, _, _, _, h9⟩ := h; exact ⟨h2.ne, h2.sl.ep, h9⟩
section
variable {S : Nat → Prop} {dk k n i jb E : Nat} {f rd : Int} {T l : List UInt8} {xs : List (List UInt8)} {w : World}
theorem putsGo_calm {L : Int} {N : Nat} {ss ls : List (List UInt8)} (h : SSt k i ss E T L) (hn : k ≤ 64) (rd : Int) :
    putsGo (0 + slotA L (k : Int)) (chunks l) (N + 1) (k : Int).toNat 0 ⟨ss ++ ls, [], 0, rd⟩ = (0, ⟨([] ++ putsW (0 + slotA L (k : Int)) (chunks l) (N + 1) 0 k).foldl GDisk.put ss ++ ls, [], 0, rd⟩) := by
  have hlen := h.len
  have hs : 0 ≤ slotA L (k : Int) ∧ slotA L (k : Int) ≤ k := by unfold slotA; split <;> omega
  have := puts_calm (a := 0 + slotA L (k : Int)) (c := chunks l) (e := N + 1) (fun x hx => chunks_mem hx) k 0 ⟨ss ++ ls, [], 0, rd⟩ rfl (fun j h1 h2 => ⟨by omega, by show _ < ((ss ++ ls).length : Int); rw [List.length_append, hlen]; omega⟩)
  rw [Int.toNat_natCast, this]
  simp only
  rw [put_app]
  intro x hx
  rw [List.nil_append, putsW] at hx
  obtain ⟨j, hj, rfl⟩ := List.mem_map.1 hx
  have := List.mem_range'_1.1 hj
  simp only
  omega
theorem JDk.snap {L : Int} {ss ls : List (List UInt8)} {N : Nat} (h : JDk k n i E T L xs ss ls) (hN : N ≤ i) (hall : ∀ s ∈ ss, epS s ≤ N) (n0 : 0 < k) (hi : i < 250) (hl : l.length ≤ 43 * k) :
    JDk k n (i + 1) (N + 1) l (slotN L) [] (([] ++ putsW (0 + slotA L (k : Int)) (chunks l) (N + 1) 0 k).foldl GDisk.put ss) ls ∧ ∀ s ∈ ([] ++ putsW (0 + slotA L (k : Int)) (chunks l) (N + 1) 0 k).foldl GDisk.put ss, epS s ≤ N + 1 := by
  have hEN := h.sl.le n0 h.ne hall (by omega)
  refine ⟨⟨h.sl.wr hN hall n0 (by omega) hl, h.lay.fresh (fun s hs => by have := h.lt s hs; omega), fun s hs => by have := h.lt s hs; omega, by omega⟩, ?_⟩
  have key : ∀ (o : List (Int × List UInt8)) (zs : List (List UInt8)), (∀ x ∈ o, epS x.2 ≤ N + 1) → (∀ s ∈ zs, epS s ≤ N + 1) → ∀ s ∈ o.foldl GDisk.put zs, epS s ≤ N + 1 := by
    intro o
    induction o with
    | nil => exact fun zs _ h => h
    | cons x o ih =>
      intro zs ho hz
      rw [List.foldl_cons]
      refine ih _ (fun y hy => ho y (List.mem_cons_of_mem _ hy)) fun s hs => ?_
      rcases List.mem_or_eq_of_mem_set hs with hs | rfl
      · exact hz s hs
      · exact ho x (List.mem_cons_self ..)
  refine key _ _ (fun x hx => ?_) (fun s hs => by have := hall s hs; omega)
  rw [List.nil_append, putsW] at hx
  obtain ⟨j, hj, rfl⟩ := List.mem_map.1 hx
  have h1 := put_lenc (t := l) (e := N + 1) (i := j)
  have h2 := tgE_put (t := l) (e := N + 1) (i := j) (by omega)
  rw [tgE, if_pos h1] at h2
  simp only; omega
theorem jg_format {m : Nat} (hm : m = 2 * k + n) (hd : DiskAt S dk ⟨List.replicate m (List.replicate 64 0), [], 0, rd⟩ w) (k0 : 0 < k) (k1 : k ≤ 64) (n0 : 0 < n) (n1 : n ≤ 512) (hl : l.length ≤ 43 * k) :
    Calls Tryz.prog 10 #[.pointer (some ⟨dk, 0, none⟩), .int .i64 (k : Int), .string ⟨l.toArray⟩] w fun e w' => ∃ jb, e = .returned (.tuple #[.pointer (some ⟨jb, 0, none⟩), .int .i64 0]) ∧ JgPost S dk ⟨k, n, 1, jb, 0, rcN rd (2 * k), 1, l, []⟩ w w' := by
  subst hm
  have hz : List.replicate (2 * k + n) (List.replicate 64 (0 : UInt8)) = List.replicate (2 * k) (List.replicate 64 0) ++ List.replicate n (List.replicate 64 0) := by rw [List.replicate_append_replicate]
  rw [hz] at hd
  have h0 := SSt.zero (n := k) k0 0
  obtain ⟨N, hX, hN, hall⟩ := rdF_ok (ls := List.replicate n (List.replicate 64 0)) (rd := rd) h0 k0 k1 (by decide) (.inl rfl)
  obtain rfl : N = 0 := by omega
  have hw := h0.wr (l := l) hN hall k0 (by decide) hl
  refine (jnFormat_ok (k := (k : Int)) hd (by refine ⟨by omega, by omega, ?_⟩; show _ < ((List.replicate (2 * k) (List.replicate 64 (0 : UInt8)) ++ List.replicate n (List.replicate 64 0)).length : Int); simp; omega) hX rfl rfl (putsGo_calm (l := l) (N := 0) h0 k1 _) rfl (by omega) (by simp) (by show 0 + 1 < 18446744073709551616; decide)).mono ?_
  rintro e w' ⟨jb, S', g1, g2, g3, g4⟩
  refine ⟨jb, g1, S', ⟨1, slotN (-1), _, List.replicate n (List.replicate 64 0), ?_, ⟨hw, LayE.zero (e := 1) (by decide), fun s hs => ?_, by show ¬ (1 : Nat) = 0; decide⟩, by show 1 ≤ 1; decide, ?_, k0, k1, n0, n1, by show 1 < 250; decide⟩, g3, g4⟩
  · have hn : ((List.replicate (2 * k) (List.replicate 64 (0 : UInt8)) ++ List.replicate n (List.replicate 64 0)).length : Int) - 2 * (k : Int) = (n : Int) := by simp; omega
    have g2 := g2
    simp only [hn] at g2
    exact g2
  · rw [(zero_tag hs).2]; exact Nat.zero_le _
  · obtain ⟨xs, ys, e, h⟩ := hw
    intro s hs
    rw [e] at hs
    exact (h.all s hs).2
theorem jg_app {R : Int} {ys : List (List UInt8)} (h : JgAt S dk ⟨k, n, i, jb, 0, rd, E, T, xs⟩ w) (hl : l.length ≤ 43) (hR : (xs.length < n ∧ R = 0 ∧ ys = xs ++ [l]) ∨ (¬ xs.length < n ∧ R = 22 ∧ ys = xs)) :
    Calls Tryz.prog 11 #[.pointer (some ⟨jb, 0, none⟩), .string ⟨l.toArray⟩] w fun e w' => e = .returned (.int .i64 R) ∧ JgPost S dk ⟨k, n, i, jb, 0, rd, E, T, ys⟩ w w' := by
  obtain ⟨N, L, ss, ls, hJ, hD, hN, hall, k0, k1, n0, n1, hi⟩ := h
  simp only at hJ hD hN hall k0 k1 n0 n1 hi
  have hE := hD.sl.ep
  have hlen := hD.sl.len
  have hcnt := hD.lay.cnt
  rcases hR with ⟨hn, rfl, rfl⟩ | ⟨hn, rfl, rfl⟩
  · have hhas : GDisk.has ⟨ss ++ ls, [], 0, rd⟩ (2 * (k : Int) + (xs.length : Int)) := ⟨by omega, by show _ < ((ss ++ ls).length : Int); rw [List.length_append, hlen, hD.lay.len]; omega⟩
    have hx := makeS_len hl E xs.length
    obtain ⟨e1, e2⟩ := GDisk.write_ok (d := ⟨ss ++ ls, [], 0, rd⟩) ⟨hhas, hx⟩ (show ¬ (0 : Int) = 1 by decide)
    obtain ⟨e3, e4⟩ := GDisk.wrs_ok e1
    rw [e2] at e3 e4
    obtain ⟨e5, e6⟩ := GDisk.flush_ok (d := ⟨ss ++ ls, [] ++ [(2 * (k : Int) + (xs.length : Int), makeS l E xs.length)], tickF 0, rd⟩) (by show ¬ tickF 0 = 1; decide)
    have hs : (ss ++ ls).set (2 * (k : Int) + (xs.length : Int)).toNat (makeS l E xs.length) = ss ++ ls.set xs.length (makeS l E xs.length) := by
      rw [show (2 * (k : Int) + (xs.length : Int)).toNat = ss.length + xs.length by omega, List.set_append_right _ _ (by omega), Nat.add_sub_cancel_left]
    have hX : apF (2 * (k : Int)) (n : Int) (some (E, xs.length)) l ⟨ss ++ ls, [], 0, rd⟩ = ⟨0, some (E, xs.length + 1), ⟨ss ++ ls.set xs.length (makeS l E xs.length), [], 0, rd⟩⟩ := by
      rw [apF, if_neg (by omega), apG, if_neg (by omega), e3.trans e5, if_pos rfl, e4.trans e6]
      simp only [List.nil_append, List.foldl_cons, List.foldl_nil, GDisk.put]
      rw [hs]; rfl
    refine (jnApp_c hJ hX hl (by omega) (by omega) (fun e r h => by cases h; omega) (by simp)).mono ?_
    rintro e w' ⟨g1, S', g2, g3, g4⟩
    exact ⟨g1, S', ⟨N, L, ss, ls.set xs.length (makeS l E xs.length), by simp only [List.length_append, List.length_singleton]; exact g2, hD.put hl hn (by omega), hN, hall, k0, k1, n0, n1, hi⟩, g3, g4⟩
  · have hX : apF (2 * (k : Int)) (n : Int) (some (E, ys.length)) l ⟨ss ++ ls, [], 0, rd⟩ = ⟨22, some (E, ys.length), ⟨ss ++ ls, [], 0, rd⟩⟩ := by
      rw [apF, if_neg (by omega), apG, if_pos (by omega)]
    refine (jnApp_c hJ hX hl (by omega) (by omega) (fun e r h => by cases h; omega) (by simp)).mono ?_
    rintro e w' ⟨g1, S', g2, g3, g4⟩
    exact ⟨g1, S', ⟨N, L, ss, ls, g2, hD, hN, hall, k0, k1, n0, n1, hi⟩, g3, g4⟩
theorem jg_snap (h : JgAt S dk ⟨k, n, E, jb, 0, rd, E, T, xs⟩ w) (hl : l.length ≤ 43 * k) (hE : E < 249) :
    Calls Tryz.prog 18 #[.pointer (some ⟨jb, 0, none⟩), .string ⟨l.toArray⟩] w fun e w' => e = .returned (.int .i64 0) ∧ JgPost S dk ⟨k, n, E + 1, jb, 0, rd, E + 1, l, []⟩ w w' := by
  obtain ⟨N, L, ss, ls, hJ, hD, hN, hall, k0, k1, n0, n1, hi⟩ := h
  simp only at hJ hD hN hall k0 k1 n0 n1 hi
  have hEN := hD.sl.le k0 hD.ne hall (by omega)
  obtain rfl : N = E := by omega
  obtain ⟨h1, h2⟩ := hD.snap (l := l) hN hall k0 hi hl
  refine (jnSnap_ok hJ (putsGo_calm (l := l) (N := N) hD.sl k1 rd) rfl (by omega) (by omega) (by omega) (by simp) (by omega)).mono ?_
  rintro e w' ⟨g1, S', g2, g3, g4⟩
  exact ⟨g1, S', ⟨N + 1, slotN L, _, ls, g2, h1, Nat.le_refl _, h2, k0, k1, n0, n1, by show N + 1 < 250; omega⟩, g3, g4⟩
def opsJ (k n : Nat) (xs : List (List UInt8)) : Nat := 2 * k + cntS n xs
theorem jnat_disk {J : JV} {w : World} (h : JnAt S dk J w) : ∃ S0, DiskAt S0 dk J.d w ∧ ∀ i, S0 i → S i := by
  obtain ⟨S0, hd, hs, _⟩ := h.turn; exact ⟨S0, hd, hs⟩
theorem open_facts {L : Int} {ss ls : List (List UInt8)} (hD : JDk k n i E T L xs ss ls) (k0 : 0 < k) (k1 : k ≤ 64) (n0 : 0 < n) (n1 : n ≤ 512) (hi : i < 250) (f rd : Int) :
    (1 ≤ (k : Int) ∧ (k : Int) ≤ 64 ∧ 2 * (k : Int) < ((⟨ss ++ ls, [], f, rd⟩ : GDisk).secs.length : Int)) ∧ ((⟨ss ++ ls, [], f, rd⟩ : GDisk).secs.length : Int) - 2 * (k : Int) = (n : Int) ∧ (2 * (k : Int)) = (ss.length : Int) := by
  have hlen := hD.sl.len
  have hl2 := hD.lay.len
  refine ⟨⟨by omega, by omega, ?_⟩, ?_, by omega⟩
  · show _ < ((ss ++ ls).length : Int); rw [List.length_append]; omega
  · show ((ss ++ ls).length : Int) - _ = _; rw [List.length_append]; omega
theorem open_disk {L : Int} {ss ls : List (List UInt8)} {d : GDisk} (hd : DiskAt S dk d w) (hF : d.flushE = 0) (hfl : d.flushD = ⟨ss ++ ls, [], f, rd⟩) (hlen : d.secs.length = (ss ++ ls).length) (hD : JDk k n i E T L xs ss ls) (k0 : 0 < k) (k1 : k ≤ 64) (n0 : 0 < n) (n1 : n ≤ 512) (hi : i < 250) (hf : f = 0 ∨ ((opsJ k n xs : Nat) : Int) < f) :
    Calls Tryz.prog 13 #[.pointer (some ⟨dk, 0, none⟩), .int .i64 (k : Int)] w fun e w' => ∃ jb A c S', e = .returned (.tuple #[.pointer (some ⟨jb, 0, none⟩), .agg #[.string ⟨T.toArray⟩, .slice A xs.length c], .int .i64 0]) ∧ JgAt S' dk ⟨k, n, i, jb, tkN f (opsJ k n xs), rcN rd (opsJ k n xs), E, T, xs⟩ w' ∧ OwAt strC 1 9 A c xs w' ∧ (∀ i, blk A = some i → w.heap.size ≤ i) ∧ (∀ i, blk A = some i → ¬ S' i) ∧ (∀ i, S' i → S i ∨ w.heap.size ≤ i) ∧ Keeps S w w' := by
  have hE := hD.sl.ep
  obtain ⟨c1, c2, c3⟩ := open_facts hD k0 k1 n0 n1 hi f rd
  obtain ⟨N, hX, hN, hall⟩ := rdF_ok (ls := ls) (rd := rd) (f := f) hD.sl k0 k1 (by omega) (by unfold opsJ at hf; omega)
  have hY := scF_ok (ss := ss) (rd := rcN rd (2 * k)) (f := tkN f (2 * k)) hD.lay (by omega) (by omega) c3 (by unfold opsJ at hf; unfold tkN; split <;> omega)
  have etk : tkN (tkN f (2 * k)) (cntS n xs) = tkN f (opsJ k n xs) := by unfold opsJ at hf ⊢; unfold tkN; rcases hf with rfl | hf <;> simp <;> (try (split <;> omega))
  rw [rcN_add, etk] at hY
  have c1' : 1 ≤ (k : Int) ∧ (k : Int) ≤ 64 ∧ 2 * (k : Int) < (d.secs.length : Int) := by rw [hlen]; exact c1
  have c2' : (d.secs.length : Int) - 2 * (k : Int) = (n : Int) := by rw [hlen]; exact c2
  refine (jnOpen_ok (k := (k : Int)) (X := ⟨E, T, 0, true, N, L, ⟨ss ++ ls, [], tkN f (2 * k), rcN rd (2 * k)⟩⟩) (Y := ⟨xs, 0, some (E, xs.length), ⟨ss ++ ls, [], tkN f (opsJ k n xs), rcN rd (2 * k + cntS n xs)⟩⟩) hd c1' (by rw [hfl]; exact hX) (by rw [c2']; exact hY) (by show E < _; omega) hF rfl hD.ne rfl).mono ?_
  rintro e w' ⟨jb, A, c, S', g1, g2, g3, g4, g5, g6, g7⟩
  rw [c2'] at g2
  exact ⟨jb, A, c, S', g1, ⟨N, L, ss, ls, g2, hD, hN, hall, k0, k1, n0, n1, hi⟩, g3, g4, g5, g6, g7⟩
theorem jg_open (h : JgAt S dk ⟨k, n, i, jb, f, rd, E, T, xs⟩ w) (hf : f = 0 ∨ ((opsJ k n xs + 1 : Nat) : Int) < f) :
    Calls Tryz.prog 13 #[.pointer (some ⟨dk, 0, none⟩), .int .i64 (k : Int)] w fun e w' => ∃ jb A c S', e = .returned (.tuple #[.pointer (some ⟨jb, 0, none⟩), .agg #[.string ⟨T.toArray⟩, .slice A xs.length c], .int .i64 0]) ∧ JgAt S' dk ⟨k, n, i, jb, tkN f (opsJ k n xs + 1), rcN rd (opsJ k n xs), E, T, xs⟩ w' ∧ OwAt strC 1 9 A c xs w' ∧ (∀ i, blk A = some i → w.heap.size ≤ i) ∧ (∀ i, blk A = some i → ¬ S' i) ∧ (∀ i, S' i → S i ∨ w.heap.size ≤ i) ∧ Keeps S w w' := by
  obtain ⟨N, L, ss, ls, hJ, hD, hN, hall, k0, k1, n0, n1, hi⟩ := h
  simp only at hJ hD hN hall k0 k1 n0 n1 hi
  obtain ⟨S0, hd, hs⟩ := jnat_disk hJ
  obtain ⟨t1, t2, t3⟩ := tkN_tick hf
  obtain ⟨e1, e2⟩ := GDisk.flush_ok (d := ⟨ss ++ ls, [], f, rd⟩) t3
  refine (open_disk hd e1 e2 (by simp) hD k0 k1 n0 n1 hi t2).mono ?_
  rintro e w' ⟨jb, A, c, S', g1, g2, g3, g4, g5, g6, g7⟩
  rw [t1] at g2
  exact ⟨jb, A, c, S', g1, g2, g3, g4, g5, fun i hi => (g6 i hi).imp (hs i) id, g7.mono fun i _ hi => hs i hi⟩
theorem jg_open_bad (h : JgAt S dk ⟨k, n, i, jb, f, rd, E, T, xs⟩ w) (h1 : 1 ≤ f) (h2 : f ≤ ((opsJ k n xs + 1 : Nat) : Int)) :
    Calls Tryz.prog 13 #[.pointer (some ⟨dk, 0, none⟩), .int .i64 (k : Int)] w fun e w' => e = .returned (.tuple #[.pointer none, .agg #[.string ⟨#[]⟩, .slice none 0 0], .int .i64 18]) ∧ Keeps S w w' := by
  obtain ⟨N, L, ss, ls, hJ, hD, hN, hall, k0, k1, n0, n1, hi⟩ := h
  simp only at hJ hD hN hall k0 k1 n0 n1 hi
  obtain ⟨S0, hd, hs⟩ := jnat_disk hJ
  simp only at hd
  have hE := hD.sl.ep
  obtain ⟨c1, c2, c3⟩ := open_facts hD k0 k1 n0 n1 hi f rd
  have key : ∀ (X : RdX), rdF 0 (k : Int) (GDisk.flushD ⟨ss ++ ls, [], f, rd⟩) = X → X.e < 18446744073709551616 → (opF (k : Int) ⟨ss ++ ls, [], f, rd⟩).1 = 18 → Calls Tryz.prog 13 #[.pointer (some ⟨dk, 0, none⟩), .int .i64 (k : Int)] w fun e w' => e = .returned (.tuple #[.pointer none, .agg #[.string ⟨#[]⟩, .slice none 0 0], .int .i64 18]) ∧ Keeps S w w' := fun X hX hXl hR1 => by
    refine (jnOpen_no (k := (k : Int)) hd c1 hX rfl hXl rfl (by rw [hR1]; decide)).mono ?_
    rintro e w' ⟨g1, S', g2, g3, g4⟩
    rw [hR1] at g1
    exact ⟨g1, g4.mono fun i _ hi => hs i hi⟩
  have hlt : ∀ d, (rdF 0 (k : Int) d).e < 18446744073709551616 := fun d => by
    rw [rdF, rdX]
    split
    · exact Nat.zero_lt_succ _
    · split
      · exact Nat.zero_lt_succ _
      · simp only
        obtain ⟨a1, a2, _⟩ := SvR.e_lt (a := 0 + 0) (k := (k : Int).toNat) (nw := 0) (d := d) (by decide) rfl
        obtain ⟨b1, b2, _⟩ := SvR.e_lt (a := 0 + (k : Int)) (k := (k : Int).toNat) (d := (slotGo (0 + 0) (k : Int).toNat 0 true 0 [] 0 d).d) a2 rfl
        unfold pickE; split
        · exact b1
        · exact a1
  by_cases hf : f = 1
  · obtain ⟨e1, e2⟩ := GDisk.flush_io (d := ⟨ss ++ ls, [], f, rd⟩) hf
    refine key _ rfl (hlt _) ?_
    rw [opF, if_pos (by rw [e1]; decide)]; exact e1
  · obtain ⟨e1, e2⟩ := GDisk.flush_ok (d := ⟨ss ++ ls, [], f, rd⟩) hf
    have ht : tickF f = f - 1 := if_neg (by omega)
    simp only [List.foldl_nil, ht] at e2
    by_cases hf2 : f - 1 ≤ ((2 * k : Nat) : Int)
    · have hb := rdF_bad (ls := ls) (rd := rd) (f := f - 1) hD.sl k0 k1 (by omega) hf2
      refine key _ rfl (hlt _) ?_
      rw [opF, if_neg (fun q => q e1), if_pos (by rw [e2, hb]; decide)]
      show (rdF 0 (k : Int) (GDisk.flushD ⟨ss ++ ls, [], f, rd⟩)).bad = 18
      rw [e2]; exact hb
    · obtain ⟨N2, hX, _, _⟩ := rdF_ok (ls := ls) (rd := rd) (f := f - 1) hD.sl k0 k1 (by omega) (.inr (by omega))
      have hb := scF_bad (ss := ss) (rd := rcN rd (2 * k)) (f := tkN (f - 1) (2 * k)) hD.lay (by omega) (by omega) c3 (by unfold tkN; split <;> omega) (by unfold opsJ at h2; unfold tkN; split <;> omega)
      refine key _ rfl (hlt _) ?_
      rw [opF, if_neg (fun q => q e1), e2, hX, if_neg (fun q => q rfl), if_neg hD.ne, c2, if_pos (by rw [hb]; decide)]; exact hb
theorem jg_fail {f' : Int} (h : JgAt S dk ⟨k, n, i, jb, f, rd, E, T, xs⟩ w) (h0 : 0 ≤ f') (h1 : f' ≤ 9223372036854775807) : Calls Tryz.prog 12 #[.pointer (some ⟨dk, 0, none⟩), .int .i64 f'] w fun e w' => e = .returned (.tuple #[]) ∧ JgPost S dk ⟨k, n, i, jb, f', rd, E, T, xs⟩ w w' := by
  obtain ⟨N, L, ss, ls, hJ, hq⟩ := h
  refine (jFail_c hJ h0 h1).mono ?_
  rintro e w' ⟨g1, S', g2, g3, g4⟩
  exact ⟨g1, S', ⟨N, L, ss, ls, g2, hq⟩, g3, g4⟩
theorem jg_crash0 (h : JgAt S dk ⟨k, n, i, jb, f, rd, E, T, xs⟩ w) : Calls Tryz.prog 14 #[.pointer (some ⟨dk, 0, none⟩), .slice none 0 0] w fun e w' => e = .returned (.int .i64 0) ∧ JgPost S dk ⟨k, n, i, jb, 0, 0, E, T, xs⟩ w w' := by
  obtain ⟨N, L, ss, ls, hJ, hq⟩ := h
  refine (jCrash_c (fs := []) (cf := 0) hJ SlAt.nil (fun h => absurd rfl h) (by simp)).mono ?_
  rintro e w' ⟨g1, S', g2, g3, g4⟩
  exact ⟨g1, S', ⟨N, L, ss, ls, g2, hq⟩, g3, g4⟩
theorem jg_left (h : JgAt S dk ⟨k, n, i, jb, f, rd, E, T, xs⟩ w) : Calls Tryz.prog 20 #[.pointer (some ⟨jb, 0, none⟩)] w fun e w' => e = .returned (.int .i64 ((n : Int) - (xs.length : Int))) ∧ Adds w w' := by
  obtain ⟨N, L, ss, ls, hJ, hD, hN, hall, k0, k1, n0, n1, hi⟩ := h
  have hc := hD.lay.cnt
  simp only at hc n1 hJ
  exact jnLeft_c hJ (by omega) (fun e r h => by cases h; omega)
theorem jg_good (h : JgAt S dk ⟨k, n, i, jb, f, rd, E, T, xs⟩ w) : Calls Tryz.prog 19 #[.pointer (some ⟨jb, 0, none⟩)] w fun e w' => e = .returned (.bool true) ∧ Adds w w' := by
  obtain ⟨N, L, ss, ls, hJ, _⟩ := h; exact jnGood_c hJ
theorem jg_epoch (h : JgAt S dk ⟨k, n, i, jb, f, rd, E, T, xs⟩ w) : Calls Tryz.prog 16 #[.pointer (some ⟨jb, 0, none⟩)] w fun e w' => e = .returned (.int .u64 (E : Int)) ∧ Adds w w' := by
  obtain ⟨N, L, ss, ls, hJ, _⟩ := h; exact jnEpoch_c hJ
theorem jg_reads (h : JgAt S dk ⟨k, n, i, jb, f, rd, E, T, xs⟩ w) : Calls Tryz.prog 15 #[.pointer (some ⟨dk, 0, none⟩)] w fun e w' => e = .returned (.int .i64 rd) ∧ Adds w w' := by
  obtain ⟨N, L, ss, ls, hJ, _⟩ := h
  obtain ⟨S0, hd, _⟩ := jnat_disk hJ
  exact dReads_fp hd
end
end Go.Proofs.YtnndkgmcjbnfbaaGreatDoor
namespace Go.Proofs.YtnndkgmcjbnfbaaGreatDoor
open Go.RowKit
set_option linter.unusedVariables false
structure GTry8 where
  sn : Bool
  cr : Bool
  tw : Bool
  t : List UInt8
  f : Int
  A : Option Addr
  c : Nat
  fs : List (Int × Int)
abbrev tryC8 (y : GTry8) : List Value := [.bool y.sn, .bool y.cr, .bool y.tw, .string ⟨y.t.toArray⟩, .int .i64 y.f, .slice y.A y.fs.length y.c]
def Tries8Ok (ys : List GTry8) (w : World) : Prop := ∀ y ∈ ys, y.t.length ≤ 9223372036854775807 ∧ SlAt ftC 2 76 y.A y.fs w ∧ y.fs.length ≤ 9223372036854775807
theorem jz_open {S : Nat → Prop} {dk m : Nat} {k rd : Int} {w : World} (hd : DiskAt S dk ⟨List.replicate m (List.replicate 64 0), [], 0, rd⟩ w) (hk : 1 ≤ k ∧ k ≤ 64 ∧ 2 * k < (m : Int)) :
    Calls Tryz.prog 13 #[.pointer (some ⟨dk, 0, none⟩), .int .i64 k] w fun e w' => ∃ rd' S', e = .returned (.tuple #[.pointer none, .agg #[.string ⟨#[]⟩, .slice none 0 0], .int .i64 12]) ∧ DiskAt S' dk ⟨List.replicate m (List.replicate 64 0), [], 0, rd'⟩ w' ∧ (∀ k, S' k → S k ∨ w.heap.size ≤ k) ∧ Keeps S w w' := by
  obtain ⟨h1, h2, h3⟩ := hk
  obtain ⟨j, rfl⟩ : ∃ j : Nat, k = (j : Int) := ⟨k.toNat, by omega⟩
  have hz : List.replicate m (List.replicate 64 (0 : UInt8)) = List.replicate (2 * j) (List.replicate 64 0) ++ List.replicate (m - 2 * j) (List.replicate 64 0) := by rw [List.replicate_append_replicate]; congr 1; omega
  have hlen : ((⟨List.replicate m (List.replicate 64 0), [], 0, rd⟩ : GDisk).secs.length : Int) = m := by simp
  obtain ⟨N, hX, hN, hall⟩ := rdF_ok (ls := List.replicate (m - 2 * j) (List.replicate 64 0)) (rd := rd) (f := 0) (SSt.zero (n := j) (by omega) 0) (by omega) (by omega) (by decide) (.inl rfl)
  rw [← hz] at hX
  obtain ⟨e1, e2⟩ := GDisk.flush_ok (d := ⟨List.replicate m (List.replicate 64 0), [], 0, rd⟩) (by show ¬ (0 : Int) = 1; decide)
  have e2 : GDisk.flushD ⟨List.replicate m (List.replicate 64 0), [], 0, rd⟩ = ⟨List.replicate m (List.replicate 64 0), [], 0, rd⟩ := e2
  have hR : opF (j : Int) ⟨List.replicate m (List.replicate 64 0), [], 0, rd⟩ = (12, ⟨List.replicate m (List.replicate 64 0), [], tkN 0 (2 * j), rcN rd (2 * j)⟩) := by
    rw [opF, if_neg (fun q => q e1), e2, hX, if_neg (fun q => q rfl), if_pos rfl]
  have hX2 := hX
  rw [← e2] at hX2
  refine (jnOpen_no (k := (j : Int)) hd ⟨h1, h2, by rw [hlen]; exact h3⟩ hX2 rfl (by show 0 < 18446744073709551616; decide) hR (by show ¬ (12 : Int) = 0; decide)).mono ?_
  rintro e w' ⟨g1, S', g2, g3, g4⟩
  exact ⟨_, S', g1, g2, g3, g4⟩
end Go.Proofs.YtnndkgmcjbnfbaaGreatDoor
namespace Go.Proofs.YtnndkgmcjbnfbaaGreatDoor
open Go.RowKit
set_option linter.unusedVariables false
set_option linter.unusedSimpArgs false
set_option maxRecDepth 100000 in
theorem l08short_c (l : List UInt8) (n : Nat) (hn : n ≤ 1000000) (hl : l.length ≤ 9223372036854775807) (w : World) : Calls Tryz.prog 17 #[.string ⟨l.toArray⟩, .int .i64 (n : Int)] w fun e w' => e = .returned (.string ⟨(List.take n l).toArray⟩) ∧ Adds w w' := by
  have K : Keeps (fun _ => False) w w := Keeps.refl _ w
  refine Calls.start Tryz.func17 rfl (by kernel_rfl) ?_
  refine WC.seq ?_
  refine WC.region ?_
  refine WL.op (d := 4) (.string ⟨#[]⟩) (k := ?_)
  refine WL.nil ?_
  refine WX.seqN ?_
  refine WC.seq ?_
  refine WC.seq ?_
  refine WC.region ?_
  refine WL.op (d := 5) (.string ⟨(l).toArray⟩) (k := ?_)
  refine WL.op (d := 6) (.int .i64 (l.length : Int)) (k := ?_)
  refine WL.op (d := 7) (.int .i64 (n : Int)) (k := ?_)
  refine WL.op (d := 8) (.bool (decide ((l.length : Int) > (n : Int)))) (k := ?_)
  refine WL.nil ?_
  refine WX.seqN ?_
  refine WC.cond (b := decide ((l.length : Int) > (n : Int))) (ht := fun h1 => ?_) (hf := fun h1 => ?_)
  · have ph1 := of_decide_eq_true h1
    refine WC.seq ?_
    refine WC.region ?_
    refine WL.op (d := 9) (.string ⟨(l).toArray⟩) (k := ?_)
    refine WL.op (d := 10) (.int .i64 (n : Int)) (k := ?_)
    refine WL.cut (d := 11) (vx := .string ⟨(l).toArray⟩) (lo' := none) (hi' := (some (.int .i64 (n : Int)))) (mx' := none) (v := .string ⟨(List.take n l).toArray⟩) (run_cut (P := Tryz.prog) (w := w) (lo := none) (hi := (some (.int .i64 (n : Int)))) (T := 9) (a := 0) (b := n) (l := l) (by kernel_rfl) (.inl ⟨rfl, rfl⟩) (.inr ⟨_, _, rfl, by omega⟩) (by first | omega | (simp; omega)) (by first | omega | (simp; omega))) (k := ?_)
    refine WL.op (d := 4) (.string ⟨(List.take n l).toArray⟩) (k := ?_)
    refine WL.nil ?_
    refine WX.seqN ?_
    refine WC.ret ?_
    refine WX.seqR ?_
    refine WX.ret (rs := [.tmp 4]) [.string ⟨(List.take n l).toArray⟩] (.string ⟨(List.take n l).toArray⟩) ⟨(by kernel_rfl), trivial⟩ (k := ?_)
    exact ⟨rfl, K⟩
  · have ph1 := of_decide_eq_false h1
    refine WC.skip ?_
    refine WX.seqN ?_
    refine WC.seq ?_
    refine WC.region ?_
    refine WL.op (d := 12) (.string ⟨(l).toArray⟩) (k := ?_)
    refine WL.op (d := 4) (.string ⟨(l).toArray⟩) (k := ?_)
    refine WL.nil ?_
    refine WX.seqN ?_
    refine WC.ret ?_
    refine WX.ret (rs := [.tmp 4]) [.string ⟨(l).toArray⟩] (.string ⟨(l).toArray⟩) ⟨(by kernel_rfl), trivial⟩ (k := ?_)
    exact ⟨by rw [List.take_of_length_le (by omega)], K⟩
theorem and8f {α : Type} [DecidableEq α] {a b : List UInt8} {xs ys : α} (h : false = decide (xs = ys)) : false = decide (a = b ∧ xs = ys) := (decide_eq_false fun k => of_decide_eq_false h.symm k.2).symm
theorem and8t {α : Type} [DecidableEq α] {a b : List UInt8} {xs ys : α} (hs : a = b) (h : true = decide (xs = ys)) : true = decide (a = b ∧ xs = ys) := (decide_eq_true ⟨hs, of_decide_eq_true h.symm⟩).symm
set_option maxRecDepth 100000 in
set_option maxHeartbeats 4000000 in
theorem u08Same_c {s8 t8 : List UInt8} {A B : Option Addr} {cp cq : Nat} {xs ys : List (List UInt8)} {w : World} (hA : SlAt strC 1 9 A xs w) (hB : SlAt strC 1 9 B ys w) (hn : xs.length ≤ 1000000000) (hm : ys.length ≤ 1000000000) : Calls Tryz.prog 21 #[.agg #[.string ⟨s8.toArray⟩, .slice A xs.length cp], .agg #[.string ⟨t8.toArray⟩, .slice B ys.length cq]] w fun e w' => e = .returned (.bool (decide (s8 = t8 ∧ xs = ys))) ∧ Adds w w' := by
  have K : Keeps (fun _ => False) w w := Keeps.refl _ w
  refine Calls.start Tryz.func21 rfl (by kernel_rfl) ?_
  refine WC.seq ?_
  refine WC.region ?_
  refine WL.new (d := 2) (T := 33) #[.string ⟨(s8).toArray⟩, .slice A xs.length cp] (k := fun b1 w2 g3 hb4 k5 => ?_)
  have z6 := Nat.le_trans K.size g3
  replace K := K.trans (k5.any _)
  refine WL.new (d := 3) (T := 33) #[.string ⟨(t8).toArray⟩, .slice B ys.length cq] (k := fun b7 w8 g9 hb10 k11 => ?_)
  have z12 := Nat.le_trans K.size g9
  have n13 : b1 ≠ b7 := Nat.ne_of_lt (Nat.lt_of_lt_of_le (lt_of_heap hb4) g9)
  replace hb4 := k11.heap hb4 id
  replace K := K.trans (k11.any _)
  refine WL.op (d := 4) (.bool false) (k := ?_)
  refine WL.nil ?_
  refine WX.seqN ?_
  refine WC.seq ?_
  refine WC.seq ?_
  refine WC.region ?_
  refine WL.op (d := 6) (.pointer (some ⟨b1, 0, none⟩)) (k := ?_)
  refine WL.load (v := .string ⟨(s8).toArray⟩) (ld1 (T := 9) (i := 0) hb4) (k := ?_)
  refine WL.op (d := 8) (.pointer (some ⟨b7, 0, none⟩)) (k := ?_)
  refine WL.load (v := .string ⟨(t8).toArray⟩) (ld1 (T := 9) (i := 0) hb10) (k := ?_)
  refine WL.opE (d := 10) (.bool !(ByteArray.toList ⟨(s8).toArray⟩ == ByteArray.toList ⟨(t8).toArray⟩)) (v := .bool (!(decide (s8 = t8)))) (str_neq _ _) (k := ?_)
  refine WL.op (d := 11) (.bool (!(decide (s8 = t8)))) (k := ?_)
  refine bsplit (!(decide (s8 = t8))) (fun h14 => ?_) (fun h14 => ?_)
  · have h15 : (decide (s8 = t8)) = false := Bool.not_inj (y := false) h14
    have ph15 := of_decide_eq_false h15
    refine WL.rw (t := 11) (v := .bool true) (congrArg Value.bool h14) (k := ?_)
    refine WL.skip (d := 12) (k := ?_)
    refine WL.skip (d := 13) (k := ?_)
    refine WL.skip (d := 14) (k := ?_)
    refine WL.skip (d := 15) (k := ?_)
    refine WL.skip (d := 16) (k := ?_)
    refine WL.skip (d := 17) (k := ?_)
    refine WL.skip (d := 18) (k := ?_)
    refine WL.op (d := 19) (.bool true) (k := ?_)
    refine WL.nil ?_
    refine WX.seqN ?_
    refine WC.condT (k := ?_)
    refine WC.seq ?_
    refine WC.region ?_
    refine WL.op (d := 4) (.bool false) (k := ?_)
    refine WL.nil ?_
    refine WX.seqN ?_
    refine WC.ret ?_
    refine WX.seqR ?_
    refine WX.ret (rs := [.tmp 4]) [.bool false] (.bool false) ⟨(by kernel_rfl), trivial⟩ (k := ?_)
    exact ⟨ret_bool (decide_eq_false (fun h_ => ph15 h_.1)).symm, K⟩
  · have h16 : (decide (s8 = t8)) = true := Bool.not_inj (y := true) h14
    have ph16 := of_decide_eq_true h16
    refine WL.rw (t := 11) (v := .bool false) (congrArg Value.bool h14) (k := ?_)
    refine WL.op (d := 12) (.pointer (some ⟨b1, 1, none⟩)) (k := ?_)
    refine WL.load (v := .slice A xs.length cp) (ld1 (T := 31) (i := 1) hb4) (k := ?_)
    refine WL.op (d := 14) (.int .i64 (xs.length : Int)) (k := ?_)
    refine WL.op (d := 15) (.pointer (some ⟨b7, 1, none⟩)) (k := ?_)
    refine WL.load (v := .slice B ys.length cq) (ld1 (T := 31) (i := 1) hb10) (k := ?_)
    refine WL.op (d := 17) (.int .i64 (ys.length : Int)) (k := ?_)
    refine WL.op (d := 18) (.bool ((xs.length : Int) != (ys.length : Int))) (k := ?_)
    refine WL.op (d := 19) (.bool ((xs.length : Int) != (ys.length : Int))) (k := ?_)
    refine WL.nil ?_
    refine WX.seqN ?_
    refine WC.cond (b := (xs.length : Int) != (ys.length : Int)) (ht := fun h17 => ?_) (hf := fun h17 => ?_)
    · have ph17 := bne_iff_ne.1 h17
      refine WC.seq ?_
      refine WC.region ?_
      refine WL.op (d := 4) (.bool false) (k := ?_)
      refine WL.nil ?_
      refine WX.seqN ?_
      refine WC.ret ?_
      refine WX.seqR ?_
      refine WX.ret (rs := [.tmp 4]) [.bool false] (.bool false) ⟨(by kernel_rfl), trivial⟩ (k := ?_)
      exact ⟨ret_bool (and8f (eqU_len (by omega))), K⟩
    · have ph17 := of_bne_false h17
      refine WC.skip ?_
      refine WX.seqN ?_
      refine WC.seq ?_
      refine WC.seq ?_
      refine WC.region ?_
      refine WL.op (d := 5) (.int .i64 0) (k := ?_)
      refine WL.nil ?_
      refine WX.seqN ?_
      refine WC.block ?_
      refine WC.loop (ι := Int) (fun (i : Int) => [(0, .agg #[.string ⟨(s8).toArray⟩, .slice A xs.length cp]), (1, .agg #[.string ⟨(t8).toArray⟩, .slice B ys.length cq]), (2, .pointer (some ⟨b1, 0, none⟩)), (3, .pointer (some ⟨b7, 0, none⟩)), (6, .pointer (some ⟨b1, 0, none⟩)), (7, .string ⟨(s8).toArray⟩), (8, .pointer (some ⟨b7, 0, none⟩)), (9, .string ⟨(t8).toArray⟩), (10, .bool (!(decide (s8 = t8)))), (11, .bool false), (12, .pointer (some ⟨b1, 1, none⟩)), (13, .slice A xs.length cp), (14, .int .i64 (xs.length : Int)), (15, .pointer (some ⟨b7, 1, none⟩)), (16, .slice B ys.length cq), (17, .int .i64 (ys.length : Int)), (18, .bool ((xs.length : Int) != (ys.length : Int))), (19, .bool ((xs.length : Int) != (ys.length : Int))), (5, .int .i64 i)]) (fun (i : Int) (w_ : World) => (Keeps (fun _ => False) w w_) ∧ (w_.heap[b1]? = some (.cells #[.string ⟨(s8).toArray⟩, .slice A xs.length cp] 33 (0, 0))) ∧ (w_.heap[b7]? = some (.cells #[.string ⟨(t8).toArray⟩, .slice B ys.length cq] 33 (0, 0))) ∧ (0 ≤ i) ∧ (i ≤ xs.length) ∧ (eqU xs ys i)) (fun (i : Int) => (xs.length - i).toNat) 0 ⟨(by kernel_rfl), (by kernel_rfl), (by kernel_rfl), (by kernel_rfl), (by kernel_rfl), (by kernel_rfl), (by kernel_rfl), (by kernel_rfl), (by kernel_rfl), (by kernel_rfl), (by kernel_rfl), (by kernel_rfl), (by kernel_rfl), (by kernel_rfl), (by kernel_rfl), (by kernel_rfl), (by kernel_rfl), (by kernel_rfl), (by kernel_rfl), trivial⟩ ⟨K, hb4, hb10, Int.le_refl 0, (by omega), eqU_zero _ _⟩ ?_
      rintro i w18 ⟨K, hb19, hb20, i0, i1, iu⟩
      refine WC.seq ?_
      refine WC.seq ?_
      refine WC.region ?_
      refine WL.op (d := 20) (.int .i64 i) (k := ?_)
      refine WL.op (d := 21) (.pointer (some ⟨b1, 1, none⟩)) (k := ?_)
      refine WL.load (v := .slice A xs.length cp) (ld1 (T := 31) (i := 1) hb19) (k := ?_)
      refine WL.op (d := 23) (.int .i64 (xs.length : Int)) (k := ?_)
      refine WL.op (d := 24) (.bool (decide (i < (xs.length : Int)))) (k := ?_)
      refine WL.nil ?_
      refine WX.seqN ?_
      refine WC.cond (b := decide (i < (xs.length : Int))) (ht := fun h21 => ?_) (hf := fun h21 => ?_)
      · have ph21 := of_decide_eq_true h21
        refine WC.skip ?_
        refine WX.seqN ?_
        refine WC.seq ?_
        refine WC.block ?_
        refine WC.seq ?_
        refine WC.mixed (fun _ => False) 11 (k := fun w22 k23 => ?_)
        replace hb19 := k23.heap hb19 id
        replace hb20 := k23.heap hb20 id
        replace K := K.trans (k23.any _)
        have KC := Keeps.refl (fun _ => False) w22
        have bh24 := hb19
        have bh25 := hb20
        have Kb := K
        refine WA.quiet2 0 (d := 27) (.pointer (some ⟨b1, 1, none⟩)) KC (hi := rfl) (k := ?_)
        refine WA.quietR2 1 (d := 28) (.slice A xs.length cp) KC (exec_load (fun w_ k_ => ld1 (T := 31) (i := 1) (k_.heap bh24 id))) (hi := rfl) (k := ?_)
        refine WA.quiet2 2 (d := 29) (.int .i64 i) KC (hi := rfl) (k := ?_)
        obtain ⟨b26, o27, r28, hr29, hA30, he31⟩ := SlAt.at hA (i := i) (by omega) (by omega)
        refine WA.rw (t := 28) (v := .slice (some ⟨b26, o27, none⟩) xs.length cp) (congrArg (fun a => Value.slice a xs.length cp) hA30) (k := ?_)
        refine WA.quietR2 3 (d := 30) (.pointer (some ⟨b26, o27 + (i).toNat * 1, none⟩)) KC (exec_idx (T := 31) (E := 9) (m := 1) (b := b26) (o := o27) (len := xs.length) (cap := cp) (i := i) (kk := .i64) (by omega) (by omega)) (hi := rfl) (k := ?_)
        refine WA.rw (t := 28) (v := .slice A xs.length cp) (congrArg (fun a => Value.slice a xs.length cp) (Eq.symm hA30)) (k := ?_)
        refine WA.quietR2 4 (d := 31) (.string ⟨(r28).toArray⟩) KC (exec_load (fun w_ k_ => ((he31.adds Kb).adds k_).ld0 (T := 9))) (hi := rfl) (k := ?_)
        refine WA.quiet2 5 (d := 32) (.pointer (some ⟨b7, 1, none⟩)) KC (hi := rfl) (k := ?_)
        refine WA.quietR2 6 (d := 33) (.slice B ys.length cq) KC (exec_load (fun w_ k_ => ld1 (T := 31) (i := 1) (k_.heap bh25 id))) (hi := rfl) (k := ?_)
        refine WA.quiet2 7 (d := 34) (.int .i64 i) KC (hi := rfl) (k := ?_)
        obtain ⟨b32, o33, r34, hr35, hA36, he37⟩ := SlAt.at hB (i := i) (by omega) (by omega)
        refine WA.rw (t := 33) (v := .slice (some ⟨b32, o33, none⟩) ys.length cq) (congrArg (fun a => Value.slice a ys.length cq) hA36) (k := ?_)
        refine WA.quietR2 8 (d := 35) (.pointer (some ⟨b32, o33 + (i).toNat * 1, none⟩)) KC (exec_idx (T := 31) (E := 9) (m := 1) (b := b32) (o := o33) (len := ys.length) (cap := cq) (i := i) (kk := .i64) (by omega) (by omega)) (hi := rfl) (k := ?_)
        refine WA.rw (t := 33) (v := .slice B ys.length cq) (congrArg (fun a => Value.slice a ys.length cq) (Eq.symm hA36)) (k := ?_)
        refine WA.quietR2 9 (d := 36) (.string ⟨(r34).toArray⟩) KC (exec_load (fun w_ k_ => ((he37.adds Kb).adds k_).ld0 (T := 9))) (hi := rfl) (k := ?_)
        refine WA.quiet2 10 (d := 37) (.bool !(ByteArray.toList ⟨(r28).toArray⟩ == ByteArray.toList ⟨(r34).toArray⟩)) KC (hi := rfl) (k := ?_)
        refine WA.rw (t := 37) (v := .bool (!(decide (r28 = r34)))) (str_neq _ _) (k := ?_)
        refine WA.done (k := ?_)
        clear KC
        refine WX.seqN ?_
        refine WC.cond (b := !(decide (r28 = r34))) (ht := fun h38 => ?_) (hf := fun h38 => ?_)
        · have h39 : (decide (r28 = r34)) = false := Bool.not_inj (y := false) h38
          have ph39 := of_decide_eq_false h39
          refine WC.seq ?_
          refine WC.region ?_
          refine WL.op (d := 4) (.bool false) (k := ?_)
          refine WL.nil ?_
          refine WX.seqN ?_
          refine WC.ret ?_
          refine WX.blockR ?_
          refine WX.seqR ?_
          refine WX.seqR ?_
          refine WX.blockR ?_
          refine WX.seqR ?_
          refine WX.ret (rs := [.tmp 4]) [.bool false] (.bool false) ⟨(by kernel_rfl), trivial⟩ (k := ?_)
          exact ⟨ret_bool (and8f (eqU_bad hr29 hr35 ph39)), K⟩
        · have h40 : (decide (r28 = r34)) = true := Bool.not_inj (y := true) h38
          have ph40 := of_decide_eq_true h40
          refine WC.skip ?_
          refine WX.blockN ?_
          refine WX.seqN ?_
          refine WC.region ?_
          refine WL.op (d := 25) (.int .i64 i) (k := ?_)
          refine WL.opE (d := 26) (.int .i64 (IntKind.i64.wrap (i + 1))) (v := .int .i64 (i + 1)) (congrArg (Value.int .i64) (IntWalk.i64_in _ (by omega))) (k := ?_)
          refine WL.op (d := 5) (.int .i64 (i + 1)) (k := ?_)
          refine WL.nil ?_
          refine WX.round (i + 1) (by show (xs.length - (i + 1)).toNat < (xs.length - i).toNat; omega) ⟨(by kernel_rfl), (by kernel_rfl), (by kernel_rfl), (by kernel_rfl), (by kernel_rfl), (by kernel_rfl), (by kernel_rfl), (by kernel_rfl), (by kernel_rfl), (by kernel_rfl), (by kernel_rfl), (by kernel_rfl), (by kernel_rfl), (by kernel_rfl), (by kernel_rfl), (by kernel_rfl), (by kernel_rfl), (by kernel_rfl), (by kernel_rfl), trivial⟩ ⟨K, hb19, hb20, (by omega), (by omega), (eqU_succ i0 iu hr29 hr35 ph40)⟩
      · have ph21 := of_decide_eq_false h21
        refine WC.exit ?_
        refine WX.seqE ?_
        refine WX.seqE ?_
        refine WX.blockE ?_
        refine WX.seqN ?_
        refine WC.seq ?_
        refine WC.region ?_
        refine WL.op (d := 4) (.bool true) (k := ?_)
        refine WL.nil ?_
        refine WX.seqN ?_
        refine WC.ret ?_
        refine WX.ret (rs := [.tmp 4]) [.bool true] (.bool true) ⟨(by kernel_rfl), trivial⟩ (k := ?_)
        exact ⟨ret_bool (and8t ph16 (eqU_end (i := i) (by omega) (by omega) iu)), K⟩
end Go.Proofs.YtnndkgmcjbnfbaaGreatDoor
namespace Go.Proofs.YtnndkgmcjbnfbaaGreatDoor
open Go.RowKit
set_option linter.unusedVariables false
set_option linter.unusedSimpArgs false
def MTo (n : Nat) (sn : Bool) (T : List UInt8) (xs : List (List UInt8)) (Tn : List UInt8) (ys : List (List UInt8)) (R : Int) (T2 : List UInt8) (xs2 : List (List UInt8)) : Prop :=
  (R = 0 ∧ T2 = Tn ∧ xs2 = ys) ∨ (R = 18 ∧ ((T2 = T ∧ xs2 = xs) ∨ (T2 = Tn ∧ xs2 = ys))) ∨ (R = 22 ∧ sn = false ∧ xs.length = n ∧ T2 = T ∧ xs2 = xs)
structure JM where
  k : Nat
  n : Nat
  i : Nat
  jb : Nat
  sn : Bool
  T : List UInt8
  xs : List (List UInt8)
  Tn : List UInt8
  ys : List (List UInt8)
  R : Int
def JmDk (X : JM) (d : GDisk) : Prop := ∀ fs, ∃ E2 T2 L2 xs2 ss2 ls2, (crashN fs d.opn d.secs d.opn.length).1 = ss2 ++ ls2 ∧ JDk X.k X.n X.i E2 T2 L2 xs2 ss2 ls2 ∧ MTo X.n X.sn X.T X.xs X.Tn X.ys X.R T2 xs2
def JmAt (z : Bool) (S : Nat → Prop) (dk : Nat) (X : JM) (w : World) : Prop := ∃ J : JV, JnAt S dk J w ∧ J.jb = X.jb ∧ (z = true → J.d.fail = 0) ∧ JmDk X J.d ∧ 0 < X.k ∧ X.k ≤ 64 ∧ 0 < X.n ∧ X.n ≤ 512 ∧ X.i < 250
def JmPost (z : Bool) (S : Nat → Prop) (dk : Nat) (X : JM) (w w' : World) : Prop := ∃ S', JmAt z S' dk X w' ∧ (∀ i, S' i → S i ∨ w.heap.size ≤ i) ∧ Keeps S w w'
section
variable {z : Bool} {S S' : Nat → Prop} {dk : Nat} {X : JM} {w w' : World}
theorem JmAt.keeps (h : JmAt z S dk X w) (k : Keeps S' w w') (hn : ∀ i, S i → ¬ S' i) : JmAt z S dk X w' := by
  obtain ⟨J, h1, h2⟩ := h; exact ⟨J, h1.keeps k hn, h2⟩
theorem JmAt.adds (h : JmAt z S dk X w) (k : Adds w w') : JmAt z S dk X w' := h.keeps k (fun _ _ x => x)
theorem JmAt.lt (h : JmAt z S dk X w) : ∀ i, S i → i < w.heap.size := by
  obtain ⟨J, h1, h2⟩ := h; exact h1.lt
theorem jm_fail (h : JmAt z S dk X w) : Calls Tryz.prog 12 #[.pointer (some ⟨dk, 0, none⟩), .int .i64 0] w fun e w' => e = .returned (.tuple #[]) ∧ JmPost true S dk X w w' := by
  obtain ⟨J, h1, h2, h3, h4, h5⟩ := h
  refine (jFail_c h1 (by decide) (by decide)).mono ?_
  rintro e w' ⟨g1, S', g2, g3, g4⟩
  exact ⟨g1, S', ⟨_, g2, h2, fun _ => rfl, h4, h5⟩, g3, g4⟩
theorem jm_crash {fs : List (Int × Int)} {A : Option Addr} {cf : Nat} (h : JmAt z S dk X w) (hF : SlAt ftC 2 76 A fs w) (hFo : fs ≠ [] → ∀ p, A = some p → ¬ S p.block) (hfl : fs.length ≤ 9223372036854775807) : Calls Tryz.prog 14 #[.pointer (some ⟨dk, 0, none⟩), .slice A fs.length cf] w fun e w' => ∃ R, e = .returned (.int .i64 R) ∧ JmPost true S dk X w w' := by
  obtain ⟨J, h1, h2, h3, h4, h5⟩ := h
  refine (jCrash_c h1 hF hFo hfl).mono ?_
  rintro e w' ⟨g1, S', g2, g3, g4⟩
  refine ⟨_, g1, S', ⟨_, g2, h2, fun _ => rfl, fun fs' => ?_, h5⟩, g3, g4⟩
  obtain ⟨E2, T2, L2, xs2, ss2, ls2, e1, e2⟩ := h4 fs
  exact ⟨E2, T2, L2, xs2, ss2, ls2, e1, e2⟩
theorem jm_open {k n i jb : Nat} {sn : Bool} {T Tn : List UInt8} {xs ys : List (List UInt8)} {R : Int} (h : JmAt true S dk ⟨k, n, i, jb, sn, T, xs, Tn, ys, R⟩ w) :
    Calls Tryz.prog 13 #[.pointer (some ⟨dk, 0, none⟩), .int .i64 (k : Int)] w fun e w' => ∃ jb2 A c S' E2 T2 xs2 rd2, e = .returned (.tuple #[.pointer (some ⟨jb2, 0, none⟩), .agg #[.string ⟨T2.toArray⟩, .slice A xs2.length c], .int .i64 0]) ∧ MTo n sn T xs Tn ys R T2 xs2 ∧ JgAt S' dk ⟨k, n, i, jb2, 0, rd2, E2, T2, xs2⟩ w' ∧ OwAt strC 1 9 A c xs2 w' ∧ (∀ i, blk A = some i → w.heap.size ≤ i) ∧ (∀ i, blk A = some i → ¬ S' i) ∧ (∀ i, S' i → S i ∨ w.heap.size ≤ i) ∧ Keeps S w w' := by
  obtain ⟨J, h1, h2, h3, h4, k0, k1, n0, n1, hi⟩ := h
  have hf := h3 rfl
  obtain ⟨o1, o2, _⟩ := h1.ok
  obtain ⟨E2, T2, L2, xs2, ss2, ls2, e1, e2, e3⟩ := h4 (List.replicate J.d.opn.length (1, 0))
  rw [crash_full (fun x hx => (o2 x hx).1) o1 _ (Nat.le_refl _), List.take_length] at e1
  simp only at e2 e3 k0 k1 n0 n1 hi
  obtain ⟨S0, hd, hs⟩ := jnat_disk h1
  obtain ⟨f1, f2⟩ := GDisk.flush_ok (d := J.d) (by omega)
  rw [e1] at f2
  have hlen : J.d.secs.length = (ss2 ++ ls2).length := by
    rw [← e1]
    have : ∀ (o : List (Int × List UInt8)) (s : List (List UInt8)), (o.foldl GDisk.put s).length = s.length := by
      intro o
      induction o with
      | nil => exact fun s => rfl
      | cons x o ih => intro s; rw [List.foldl_cons, ih]; exact List.length_set ..
    exact (this _ _).symm
  refine (open_disk hd f1 f2 hlen e2 k0 k1 n0 n1 hi (.inl (by rw [hf]; rfl))).mono ?_
  rintro e w' ⟨jb2, A, c, S', g1, g2, g3, g4, g5, g6, g7⟩
  have ht : ∀ a, tkN (tickF J.d.fail) a = 0 := fun a => by rw [hf]; rfl
  rw [ht] at g2
  exact ⟨jb2, A, c, S', E2, T2, xs2, _, g1, e3, g2, g3, g4, g5, fun i hi => (g6 i hi).imp (hs i) id, g7.mono fun i _ hi => hs i hi⟩
end
section
variable {S : Nat → Prop} {dk k n i jb E : Nat} {f rd : Int} {T l : List UInt8} {xs : List (List UInt8)} {w : World}
theorem jm_app (h : JgAt S dk ⟨k, n, i, jb, f, rd, E, T, xs⟩ w) (f0 : 0 ≤ f) (hl : l.length ≤ 43) (hi : i < 249) :
    Calls Tryz.prog 11 #[.pointer (some ⟨jb, 0, none⟩), .string ⟨l.toArray⟩] w fun e w' => ∃ R, e = .returned (.int .i64 R) ∧ (R = 0 ∨ R = 18 ∨ R = 22) ∧ JmPost false S dk ⟨k, n, i + 1, jb, false, T, xs, T, xs ++ [l], R⟩ w w' := by
  obtain ⟨N, L, ss, ls, hJ, hD, hN, hall, k0, k1, n0, n1, hi2⟩ := h
  simp only at hJ hD hN hall k0 k1 n0 n1 hi2
  have hE := hD.sl.ep
  have hlen := hD.sl.len
  have hcnt := hD.lay.cnt
  have hll := hD.lay.len
  have key : ∀ (X : ApX), apF (2 * (k : Int)) (n : Int) (some (E, xs.length)) l ⟨ss ++ ls, [], f, rd⟩ = X → (X.bad = 0 ∨ X.bad = 18 ∨ X.bad = 22) → JmDk ⟨k, n, i + 1, jb, false, T, xs, T, xs ++ [l], X.bad⟩ X.d →
      Calls Tryz.prog 11 #[.pointer (some ⟨jb, 0, none⟩), .string ⟨l.toArray⟩] w fun e w' => ∃ R, e = .returned (.int .i64 R) ∧ (R = 0 ∨ R = 18 ∨ R = 22) ∧ JmPost false S dk ⟨k, n, i + 1, jb, false, T, xs, T, xs ++ [l], R⟩ w w' := fun X hX hR hd => by
    refine (jnApp_c hJ hX hl (by omega) (by omega) (fun e r h => by cases h; omega) (by simp)).mono ?_
    rintro e w' ⟨g1, S', g2, g3, g4⟩
    exact ⟨X.bad, g1, hR, S', ⟨_, g2, rfl, (fun h => by cases h), hd, k0, k1, n0, n1, by show i + 1 < 250; omega⟩, g3, g4⟩
  by_cases hn : xs.length < n
  · have hhas : ∀ g, GDisk.has ⟨ss ++ ls, [], g, rd⟩ (2 * (k : Int) + (xs.length : Int)) := fun g => ⟨by omega, by show _ < ((ss ++ ls).length : Int); rw [List.length_append, hlen, hll]; omega⟩
    have hx := makeS_len hl E xs.length
    have ea : (2 * (k : Int) + (xs.length : Int)).toNat = ss.length + xs.length := by omega
    have hs : ∀ y, (ss ++ ls).set (2 * (k : Int) + (xs.length : Int)).toNat y = ss ++ ls.set xs.length y := fun y => by
      rw [ea, List.set_append_right _ _ (by omega), Nat.add_sub_cancel_left]
    have hg : (ss ++ ls).getD (2 * (k : Int) + (xs.length : Int)).toNat [] = ls.getD xs.length [] := by
      rw [ea, List.getD_eq_getElem?_getD, List.getElem?_append_right (by omega), Nat.add_sub_cancel_left, List.getD_eq_getElem?_getD]
    have hX : apF (2 * (k : Int)) (n : Int) (some (E, xs.length)) l ⟨ss ++ ls, [], f, rd⟩ = ⟨GDisk.wrsE ⟨ss ++ ls, [], f, rd⟩ (2 * (k : Int) + (xs.length : Int)) (makeS l E xs.length), if GDisk.wrsE ⟨ss ++ ls, [], f, rd⟩ (2 * (k : Int) + (xs.length : Int)) (makeS l E xs.length) = 0 then some (E, xs.length + 1) else none, GDisk.wrsD ⟨ss ++ ls, [], f, rd⟩ (2 * (k : Int) + (xs.length : Int)) (makeS l E xs.length)⟩ := by
      rw [apF, if_neg (by omega), apG, if_neg (by omega)]
    by_cases f1 : f = 1
    · subst f1
      obtain ⟨h1, h2⟩ := wrs_f1 (hhas 1) hx
      refine key _ hX (.inr (.inl h1)) ?_
      simp only [h1, h2]
      exact fun fs => ⟨E, T, L, xs, ss, ls, rfl, hD.mono (Nat.le_succ _), .inr (.inl ⟨rfl, .inl ⟨rfl, rfl⟩⟩)⟩
    · by_cases f2 : f = 2
      · subst f2
        obtain ⟨h1, h2⟩ := wrs_f2 (hhas 2) hx
        refine key _ hX (.inr (.inl h1)) ?_
        simp only [h1, h2]
        intro fs
        have fr := fateF_rng fs 0
        have hc : (crashN fs [(2 * (k : Int) + (xs.length : Int), makeS l E xs.length)] (ss ++ ls) [(2 * (k : Int) + (xs.length : Int), makeS l E xs.length)].length).1 = (ss ++ ls).set (2 * (k : Int) + (xs.length : Int)).toNat (mixS (fateF fs 0) (makeS l E xs.length) ((ss ++ ls).getD (2 * (k : Int) + (xs.length : Int)).toNat [])) := rfl
        rw [hs, hg] at hc
        rcases hD.mix hl hn (by omega) (by omega) fr.1 fr.2 with hm | hm
        · exact ⟨E, T, L, xs ++ [l], ss, _, hc, hm.mono (Nat.le_succ _), .inr (.inl ⟨rfl, .inr ⟨rfl, rfl⟩⟩)⟩
        · exact ⟨E, T, L, xs, ss, _, hc, hm.mono (Nat.le_succ _), .inr (.inl ⟨rfl, .inl ⟨rfl, rfl⟩⟩)⟩
      · obtain ⟨h1, h2⟩ := wrs_f0 f1 f2 (hhas f) hx
        rw [hs] at h2
        refine key _ hX (.inl h1) ?_
        simp only [h1, h2]
        exact fun fs => ⟨E, T, L, xs ++ [l], ss, _, rfl, (hD.put hl hn (by omega)).mono (Nat.le_succ _), .inl ⟨rfl, rfl, rfl⟩⟩
  · have hX : apF (2 * (k : Int)) (n : Int) (some (E, xs.length)) l ⟨ss ++ ls, [], f, rd⟩ = ⟨22, some (E, xs.length), ⟨ss ++ ls, [], f, rd⟩⟩ := by
      rw [apF, if_neg (by omega), apG, if_pos (by omega)]
    refine key _ hX (.inr (.inr rfl)) ?_
    exact fun fs => ⟨E, T, L, xs, ss, ls, rfl, hD.mono (Nat.le_succ _), .inr (.inr ⟨rfl, rfl, by show xs.length = n; omega, rfl, rfl⟩)⟩
theorem jm_snap (h : JgAt S dk ⟨k, n, i, jb, f, rd, E, T, xs⟩ w) (f0 : 0 ≤ f) (hl : l.length ≤ 43 * k) (hi : i < 249) :
    Calls Tryz.prog 18 #[.pointer (some ⟨jb, 0, none⟩), .string ⟨l.toArray⟩] w fun e w' => ∃ R, e = .returned (.int .i64 R) ∧ (R = 0 ∨ R = 18) ∧ JmPost false S dk ⟨k, n, i + 1, jb, true, T, xs, l, [], R⟩ w w' := by
  obtain ⟨N, L, ss, ls, hJ, hD, hN, hall, k0, k1, n0, n1, hi2⟩ := h
  simp only at hJ hD hN hall k0 k1 n0 n1 hi2
  have hE := hD.sl.ep
  have hlen := hD.sl.len
  have hEN := hD.sl.le k0 hD.ne hall (by omega)
  have hs : 0 ≤ slotA L (k : Int) ∧ slotA L (k : Int) ≤ k := by unfold slotA; split <;> omega
  have hin : ∀ m : Nat, m ≤ k → ∀ x ∈ [] ++ putsW (0 + slotA L (k : Int)) (chunks l) (N + 1) 0 m, x.1.toNat < ss.length := fun m hm x hx => by
    rw [List.nil_append, putsW] at hx
    obtain ⟨j, hj, rfl⟩ := List.mem_map.1 hx
    have := List.mem_range'_1.1 hj
    simp only
    omega
  have hhas : ∀ j : Nat, 0 ≤ j → j < 0 + k → GDisk.has ⟨ss ++ ls, [], f, rd⟩ (0 + slotA L (k : Int) + (j : Int)) := fun j h1 h2 => ⟨by omega, by show _ < ((ss ++ ls).length : Int); rw [List.length_append, hlen]; omega⟩
  by_cases hf : 1 ≤ f ∧ f ≤ (k : Int) + 1
  · have hP := puts_fail (a := 0 + slotA L (k : Int)) (c := chunks l) (e := N + 1) (fun x hx => chunks_mem hx) k 0 ⟨ss ++ ls, [], f, rd⟩ hf.1 hf.2 hhas
    have hP2 : putsGo (0 + slotA L (k : Int)) (chunks l) (N + 1) (k : Int).toNat 0 ⟨ss ++ ls, [], f, rd⟩ = (18, ⟨ss ++ ls, [] ++ putsW (0 + slotA L (k : Int)) (chunks l) (N + 1) 0 (f - 1).toNat, 0, rd⟩) := by rw [Int.toNat_natCast]; exact hP
    refine (jnSnap_no hJ hP2 (by show ¬ (18 : Int) = 0; decide) (by omega) (by omega) (by omega) (by simp) (by omega)).mono ?_
    rintro e w' ⟨g1, S', g2, g3, g4⟩
    refine ⟨18, g1, .inr rfl, S', ⟨_, g2, rfl, (fun h => by cases h), fun fs => ?_, k0, k1, n0, n1, by show i + 1 < 250; omega⟩, g3, g4⟩
    obtain ⟨E2, T2, L2, q1, q2⟩ := hD.sl.torn (l := l) (m := (f - 1).toNat) hN hall k0 k1 (by omega) hl (by omega) fs
    have hc := crash_app (fs := fs) (ls := ls) (hin (f - 1).toNat (by omega)) ([] ++ putsW (0 + slotA L (k : Int)) (chunks l) (N + 1) 0 (f - 1).toNat).length
    rcases q2 with ⟨rfl, rfl⟩ | ⟨q3, rfl, rfl⟩
    · exact ⟨E2, T2, L2, xs, _, ls, hc, ⟨q1, hD.lay, hD.lt, hD.ne⟩, .inr (.inl ⟨rfl, .inl ⟨rfl, rfl⟩⟩)⟩
    · exact ⟨N + 1, T2, L2, [], _, ls, hc, ⟨q1, hD.lay.fresh (fun s hs => by have := hD.lt s hs; omega), (fun s hs => by have := hD.lt s hs; omega), by omega⟩, .inr (.inl ⟨rfl, .inr ⟨rfl, rfl⟩⟩)⟩
  · obtain ⟨q1, q2⟩ := hD.snap (l := l) hN hall k0 hi2 hl
    have hP : ∃ f', putsGo (0 + slotA L (k : Int)) (chunks l) (N + 1) k 0 ⟨ss ++ ls, [], f, rd⟩ = (0, ⟨([] ++ putsW (0 + slotA L (k : Int)) (chunks l) (N + 1) 0 k).foldl GDisk.put (ss ++ ls), [], f', rd⟩) := by
      by_cases hz : f = 0
      · subst hz
        exact ⟨0, puts_calm (fun x hx => chunks_mem hx) k 0 ⟨ss ++ ls, [], 0, rd⟩ rfl hhas⟩
      · exact puts_big (fun x hx => chunks_mem hx) k 0 ⟨ss ++ ls, [], f, rd⟩ (by show (k : Int) + 1 < f; omega) hhas
    obtain ⟨f', hP⟩ := hP
    rw [put_app (hin k (Nat.le_refl _))] at hP
    have hP2 : putsGo (0 + slotA L (k : Int)) (chunks l) (N + 1) (k : Int).toNat 0 ⟨ss ++ ls, [], f, rd⟩ = (0, ⟨([] ++ putsW (0 + slotA L (k : Int)) (chunks l) (N + 1) 0 k).foldl GDisk.put ss ++ ls, [], f', rd⟩) := by rw [Int.toNat_natCast]; exact hP
    refine (jnSnap_ok hJ hP2 rfl (by omega) (by omega) (by omega) (by simp) (by omega)).mono ?_
    rintro e w' ⟨g1, S', g2, g3, g4⟩
    exact ⟨0, g1, .inl rfl, S', ⟨_, g2, rfl, (fun h => by cases h), fun fs => ⟨N + 1, l, slotN L, [], _, ls, rfl, q1, .inl ⟨rfl, rfl, rfl⟩⟩, k0, k1, n0, n1, by show i + 1 < 250; omega⟩, g3, g4⟩
end
end Go.Proofs.YtnndkgmcjbnfbaaGreatDoor
namespace Go.Proofs.YtnndkgmcjbnfbaaGreatDoor
open Go.RowKit
set_option linter.unusedVariables false
theorem isInt {k : IntKind} {x : Int} (h : IsInt k [.int k x]) : (Lit.int k x).wf = true := by
  obtain ⟨n, h1, h2⟩ := h
  simp only [List.cons.injEq, Value.int.injEq, true_and, and_true] at h1
  rw [h1]; exact h2
theorem isStr {s : ByteArray} (h : IsStr [.string s]) : ∃ l : List UInt8, s = ⟨l.toArray⟩ ∧ l.length ≤ 9223372036854775807 := by
  obtain ⟨n, h1, h2⟩ := h
  simp only [List.cons.injEq, Value.string.injEq, and_true] at h1
  subst h1
  obtain ⟨⟨l⟩⟩ := s
  exact ⟨l, rfl, by simpa [maxLen, ByteArray.size] using h2⟩
end Go.Proofs.YtnndkgmcjbnfbaaGreatDoor
namespace Go.Proofs.YtnndkgmcjbnfbaaGreatDoor
open Go.RowKit
set_option linter.unusedVariables false
theorem isSlAtP {α : Type} {P : α → Prop} {cl : α → List Value} {m : Nat} {E : TypeId} {El : World → List Value → Prop} {w : World} (hel : ∀ es, El w es → ∃ x, es = cl x ∧ P x) (hl : ∀ x, (cl x).length = m) (hm : 0 < m) {A : Option Addr} {n c : Nat} (h : IsSl m El w [.slice A n c]) :
    ∃ xs : List α, n = xs.length ∧ SlAt cl m E A xs w ∧ xs.length ≤ c ∧ c ≤ maxLen ∧ ∀ x ∈ xs, P x := by
  rcases h with h | ⟨a, len, cap, h, hlc, hcm, hi⟩
  · simp only [List.cons.injEq, Value.slice.injEq, and_true] at h
    obtain ⟨rfl, rfl, rfl⟩ := h
    exact ⟨[], rfl, .inl rfl, Nat.le_refl _, Nat.zero_le _, by simp⟩
  · simp only [List.cons.injEq, Value.slice.injEq, and_true] at h
    obtain ⟨rfl, rfl, rfl⟩ := h
    by_cases h0 : n = 0
    · subst h0; exact ⟨[], rfl, .inl rfl, by simp, hcm, by simp⟩
    have hex : ∀ i : Fin n, ∃ x : α, (∀ j, j < m → w.cell? ((a.add (i.1 * m)).add j) = (cl x)[j]?) ∧ P x := fun i => by
      obtain ⟨es, h1, h2, h3⟩ := hi i.1 i.2
      obtain ⟨x, rfl, hp⟩ := hel es h3
      exact ⟨x, h2, hp⟩
    obtain ⟨f, hex2⟩ := Classical.axiomOfChoice hex
    have hex' := fun i => (hex2 i).1
    refine ⟨List.ofFn f, by simp, .inr ?_, by simpa using hlc, hcm, fun x hx => by obtain ⟨i, rfl⟩ := List.mem_ofFn.1 hx; exact (hex2 i).2⟩
    have hc0 := hex' ⟨0, by omega⟩ 0 hm
    have hs : ∃ v, (cl (f ⟨0, by omega⟩))[0]? = some v := ⟨_, List.getElem?_eq_getElem (by rw [hl]; exact hm)⟩
    obtain ⟨v, hv⟩ := hs
    rw [hv] at hc0
    simp only [Nat.zero_mul, addr_add0] at hc0
    obtain ⟨b, o, sp⟩ := a
    have hsp : sp = none := World.cell?_spot hc0
    subst hsp
    have hc : ∀ (i : Fin n) j, j < m → w.cell? ⟨b, o + i.1 * m + j, none⟩ = (cl (f i))[j]? := fun i j hj => by
      have := hex' i j hj
      rwa [addr_add, addr_add] at this
    unfold World.cell? at hc hc0
    cases hb : w.heap[b]? with
    | none => simp [hb] at hc0
    | some ob =>
      cases ob with
      | cells cs E' fz =>
        simp only [hb, Option.isSome_none, Bool.false_eq_true, if_false] at hc
        refine ⟨b, o, cs, E', fz, rfl, hb, ?_, fun i r hr => ?_⟩
        · rw [List.length_ofFn]
          have h1 := hc ⟨n - 1, by omega⟩ (m - 1) (by omega)
          have h2 : (cl (f ⟨n - 1, by omega⟩))[m - 1]? = some _ := List.getElem?_eq_getElem (by rw [hl]; omega)
          rw [h2] at h1
          have h3 := (Array.getElem?_eq_some_iff.1 h1).1
          have h4 : (n - 1) * m + m = n * m := by
            have : n = n - 1 + 1 := by omega
            conv => rhs; rw [this, Nat.add_mul, Nat.one_mul]
          simp only at h3
          omega
        · have hlt : i < n := by have := (List.getElem?_eq_some_iff.1 hr).1; simpa using this
          rw [List.getElem?_ofFn, dif_pos hlt] at hr
          cases hr
          refine List.ext_getElem? fun j => ?_
          by_cases hj : j < m
          · rw [List.getElem?_take_of_lt hj, List.getElem?_drop, ← hc ⟨i, hlt⟩ j hj]; simp
          · rw [List.getElem?_eq_none (by rw [List.length_take]; omega), List.getElem?_eq_none (by rw [hl]; omega)]
      | _ => simp [hb] at hc0
end Go.Proofs.YtnndkgmcjbnfbaaGreatDoor
