/- Pl2, Args0, SlArgs: one behind the other. -/
import Derived.Test.YtnkkbeafcfjkmaaGreatDoorPk5
namespace Go.Proofs.YtnkkbeafcfjkmaaGreatDoor
open Go.RowKit
set_option linter.unusedVariables false
set_option linter.unusedSimpArgs false
set_option maxRecDepth 100000 in
theorem l07short_t (l : List UInt8) (n : Nat) (hn : n ≤ 1000000) (hl : l.length ≤ 9223372036854775807) (w : World) : Calls Tryz.prog 19 #[.string ⟨l.toArray⟩, .int .i64 (n : Int)] w fun e w' => e = .returned (.string ⟨(List.take n l).toArray⟩) ∧ Adds w w' := by
  have K : Keeps (fun _ => False) w w := Keeps.refl _ w
  refine Calls.start Tryz.func19 rfl (by kernel_rfl) ?_
  refine WC.seq ?_
  refine WC.region ?_
  refine WL.op (d := 4) (.string ⟨#[]⟩) (k := ?_)
  refine WL.nil ?_
  refine WX.seqN ?_
  refine WC.seq ?_
  refine WC.seq ?_
  refine WC.region ?_
  refine WL.op (d := 5) (.string ⟨(l).toArray⟩) (k := ?_)
  refine WL.op (d := 6) (.int .i64 (l.length : Int)) (k := ?_)
  refine WL.op (d := 7) (.int .i64 (n : Int)) (k := ?_)
  refine WL.op (d := 8) (.bool (decide ((l.length : Int) > (n : Int)))) (k := ?_)
  refine WL.nil ?_
  refine WX.seqN ?_
  refine WC.cond (b := decide ((l.length : Int) > (n : Int))) (ht := fun h1 => ?_) (hf := fun h1 => ?_)
  · have ph1 := of_decide_eq_true h1
    refine WC.seq ?_
    refine WC.region ?_
    refine WL.op (d := 9) (.string ⟨(l).toArray⟩) (k := ?_)
    refine WL.op (d := 10) (.int .i64 (n : Int)) (k := ?_)
    refine WL.cut (d := 11) (vx := .string ⟨(l).toArray⟩) (lo' := none) (hi' := (some (.int .i64 (n : Int)))) (mx' := none) (v := .string ⟨(List.take n l).toArray⟩) (run_cut (P := Tryz.prog) (w := w) (lo := none) (hi := (some (.int .i64 (n : Int)))) (T := 9) (a := 0) (b := n) (l := l) (by kernel_rfl) (.inl ⟨rfl, rfl⟩) (.inr ⟨_, _, rfl, by omega⟩) (by first | omega | (simp; omega)) (by first | omega | (simp; omega))) (k := ?_)
    refine WL.op (d := 4) (.string ⟨(List.take n l).toArray⟩) (k := ?_)
    refine WL.nil ?_
    refine WX.seqN ?_
    refine WC.ret ?_
    refine WX.seqR ?_
    refine WX.ret (rs := [.tmp 4]) [.string ⟨(List.take n l).toArray⟩] (.string ⟨(List.take n l).toArray⟩) ⟨(by kernel_rfl), trivial⟩ (k := ?_)
    exact ⟨rfl, K⟩
  · have ph1 := of_decide_eq_false h1
    refine WC.skip ?_
    refine WX.seqN ?_
    refine WC.seq ?_
    refine WC.region ?_
    refine WL.op (d := 12) (.string ⟨(l).toArray⟩) (k := ?_)
    refine WL.op (d := 4) (.string ⟨(l).toArray⟩) (k := ?_)
    refine WL.nil ?_
    refine WX.seqN ?_
    refine WC.ret ?_
    refine WX.ret (rs := [.tmp 4]) [.string ⟨(l).toArray⟩] (.string ⟨(l).toArray⟩) ⟨(by kernel_rfl), trivial⟩ (k := ?_)
    exact ⟨by rw [List.take_of_length_le (by omega)], K⟩
set_option maxRecDepth 100000 in
set_option maxHeartbeats 4000000 in
theorem wlScan_zero {b : Nat} {w : World} : Calls Tryz.prog 9 #[.pointer (some ⟨b, 0, none⟩), .int .u64 0] w fun e_ w' => e_ = .returned (.tuple #[.slice none 0 0, .int .i64 1]) ∧ Adds w w' := by
  have K : Keeps (fun _ => False) w w := Keeps.refl _ w
  refine Calls.start Tryz.func9 rfl (by kernel_rfl) ?_
  refine WC.seq ?_
  refine WC.region ?_
  refine WL.new (d := 2) (T := 26) #[.pointer (some ⟨b, 0, none⟩)] (k := fun b1 w2 g3 hb4 k5 => ?_)
  have z6 := Nat.le_trans K.size g3
  replace K := K.trans (k5.any _)
  refine WL.new (d := 3) (T := 32) #[.int .u64 0] (k := fun b7 w8 g9 hb10 k11 => ?_)
  have z12 := Nat.le_trans K.size g9
  have n13 : b1 ≠ b7 := Nat.ne_of_lt (Nat.lt_of_lt_of_le (lt_of_heap hb4) g9)
  replace hb4 := k11.heap hb4 id
  replace K := K.trans (k11.any _)
  refine WL.op (d := 4) (.slice none 0 0) (k := ?_)
  refine WL.op (d := 5) (.int .i64 0) (k := ?_)
  refine WL.nil ?_
  refine WX.seqN ?_
  refine WC.scope ?_
  refine WC.seq ?_
  refine WC.seq ?_
  refine WC.region ?_
  refine WL.load (v := .pointer (some ⟨b, 0, none⟩)) (ld1 (T := 26) (i := 0) hb4) (k := ?_)
  refine WL.op (d := 10) (.bool false) (k := ?_)
  refine WL.op (d := 11) (.bool false) (k := ?_)
  refine WL.load (v := .int .u64 0) (ld1 (T := 32) (i := 0) hb10) (k := ?_)
  refine WL.op (d := 13) (.bool true) (k := ?_)
  refine WL.op (d := 14) (.bool true) (k := ?_)
  refine WL.nil ?_
  refine WX.seqN ?_
  refine WC.condT (k := ?_)
  refine WC.seq ?_
  refine WC.region ?_
  refine WL.op (d := 4) (.slice none 0 0) (k := ?_)
  refine WL.op (d := 5) (.int .i64 1) (k := ?_)
  refine WL.nil ?_
  refine WX.seqN ?_
  refine WC.ret ?_
  refine WX.seqR ?_
  refine WX.scopeR ?_
  refine WX.ret (rs := [.tmp 4, .tmp 5]) [.slice none 0 0, .int .i64 1] (.tuple #[.slice none 0 0, .int .i64 1]) ⟨(by kernel_rfl), (by kernel_rfl), trivial⟩ (k := ?_)
  exact ⟨rfl, K⟩
theorem pl_scan0 {e b : Nat} (h0 : e = 0) (w : World) : Calls Tryz.prog 9 #[.pointer (some ⟨b, 0, none⟩), .int .u64 (e : Int)] w fun e_ w' => e_ = .returned (.tuple #[.slice none 0 0, .int .i64 1]) ∧ Adds w w' := by subst h0; exact wlScan_zero
theorem scF_len {n e : Nat} {d : GDisk} {X : ScX} (h : scF 1 (n : Int) e d = X) : List.length (ScX.xs X) ≤ n := by
  subst h
  have q := (scan_facts (at_ := 1) (e := e) (n : Int).toNat d []).1
  simp only [List.length_nil, Nat.zero_add, Int.toNat_natCast] at q
  unfold scF
  split
  · simpa using q
  · simp
set_option maxRecDepth 100000 in
set_option maxHeartbeats 4000000 in
theorem dReads_b {b n c : Nat} {r : Int} {A : Option Addr} {s1 s2 v3 v4 : Value} {w : World} (hb : w.heap[b]? = some (.cells #[s1, s2, v3, .int .i64 r] 54 (0, 0))) : Calls Tryz.prog 26 #[.pointer (some ⟨b, 0, none⟩)] w fun e w' => e = .returned (.int .i64 r) ∧ Adds w w' := by
  have K : Keeps (fun _ => False) w w := Keeps.refl _ w
  refine Calls.start Tryz.func26 rfl (by kernel_rfl) ?_
  refine WC.seq ?_
  refine WC.region ?_
  refine WL.op (d := 2) (.int .i64 0) (k := ?_)
  refine WL.nil ?_
  refine WX.seqN ?_
  refine WC.seq ?_
  refine WC.seq ?_
  refine WC.region ?_
  refine WL.op (d := 3) (.pointer (some ⟨b, 0, none⟩)) (k := ?_)
  refine WL.op (d := 4) (.bool false) (k := ?_)
  refine WL.nil ?_
  refine WX.seqN ?_
  refine WC.condF (k := ?_)
  refine WC.skip ?_
  refine WX.seqN ?_
  refine WC.seq ?_
  refine WC.region ?_
  refine WL.op (d := 5) (.pointer (some ⟨b, 0, none⟩)) (k := ?_)
  refine WL.op (d := 6) (.pointer (some ⟨b, 0, none⟩)) (k := ?_)
  refine WL.op (d := 7) (.pointer (some ⟨b, 3, none⟩)) (k := ?_)
  refine WL.load (v := .int .i64 r) (ld1 (T := 3) (i := 3) hb) (k := ?_)
  refine WL.op (d := 2) (.int .i64 r) (k := ?_)
  refine WL.nil ?_
  refine WX.seqN ?_
  refine WC.ret ?_
  refine WX.ret (rs := [.tmp 2]) [.int .i64 r] (.int .i64 r) ⟨(by kernel_rfl), trivial⟩ (k := ?_)
  exact ⟨rfl, K⟩
set_option maxRecDepth 100000 in
set_option maxHeartbeats 4000000 in
theorem dOpen_b {b n c : Nat} {r : Int} {A : Option Addr} {s1 s2 v3 v4 : Value} {w : World} (hb : w.heap[b]? = some (.cells #[s1, .slice A n c, v3, v4] 54 (0, 0))) : Calls Tryz.prog 25 #[.pointer (some ⟨b, 0, none⟩)] w fun e w' => e = .returned (.int .i64 (n : Int)) ∧ Adds w w' := by
  have K : Keeps (fun _ => False) w w := Keeps.refl _ w
  refine Calls.start Tryz.func25 rfl (by kernel_rfl) ?_
  refine WC.seq ?_
  refine WC.region ?_
  refine WL.op (d := 2) (.int .i64 0) (k := ?_)
  refine WL.nil ?_
  refine WX.seqN ?_
  refine WC.seq ?_
  refine WC.seq ?_
  refine WC.region ?_
  refine WL.op (d := 3) (.pointer (some ⟨b, 0, none⟩)) (k := ?_)
  refine WL.op (d := 4) (.bool false) (k := ?_)
  refine WL.nil ?_
  refine WX.seqN ?_
  refine WC.condF (k := ?_)
  refine WC.skip ?_
  refine WX.seqN ?_
  refine WC.seq ?_
  refine WC.region ?_
  refine WL.op (d := 5) (.pointer (some ⟨b, 0, none⟩)) (k := ?_)
  refine WL.op (d := 6) (.pointer (some ⟨b, 0, none⟩)) (k := ?_)
  refine WL.op (d := 7) (.pointer (some ⟨b, 1, none⟩)) (k := ?_)
  refine WL.load (v := .slice A n c) (ld1 (T := 52) (i := 1) hb) (k := ?_)
  refine WL.op (d := 9) (.int .i64 (n : Int)) (k := ?_)
  refine WL.op (d := 2) (.int .i64 (n : Int)) (k := ?_)
  refine WL.nil ?_
  refine WX.seqN ?_
  refine WC.ret ?_
  refine WX.ret (rs := [.tmp 2]) [.int .i64 (n : Int)] (.int .i64 (n : Int)) ⟨(by kernel_rfl), trivial⟩ (k := ?_)
  exact ⟨rfl, K⟩
theorem dOpen_fp {S : Nat → Prop} {b : Nat} {d : GDisk} {w : World} (hd : DiskAt S b d w) : Calls Tryz.prog 25 #[.pointer (some ⟨b, 0, none⟩)] w fun e w' => e = .returned (.int .i64 (d.opn.length : Int)) ∧ Adds w w' := by
  obtain ⟨A1, c1, A2, c2, hb, _⟩ := hd; exact dOpen_b (r := 0) (s2 := .bool false) hb
theorem dReads_fp {S : Nat → Prop} {b : Nat} {d : GDisk} {w : World} (hd : DiskAt S b d w) : Calls Tryz.prog 26 #[.pointer (some ⟨b, 0, none⟩)] w fun e w' => e = .returned (.int .i64 d.reads) ∧ Adds w w' := by
  obtain ⟨A1, c1, A2, c2, hb, _⟩ := hd; exact dReads_b (n := 0) (c := 0) (A := none) (v4 := .bool false) hb
section
variable {S : Nat → Prop} {dk lb ek rb n j j2 : Nat} {st st2 : Option (Nat × Nat)} {d d2 : GDisk} {w : World}
theorem pl_opn (h : PlAt S dk ⟨lb, ek, rb, n, j, st, d, j2, st2, d2⟩ w) : Calls Tryz.prog 25 #[.pointer (some ⟨dk, 0, none⟩)] w fun e w' => e = .returned (.int .i64 (d.opn.length : Int)) ∧ Adds w w' := by
  obtain ⟨S0, h1⟩ := pl_disk h
  exact dOpen_fp h1
theorem pl_reads (h : PlAt S dk ⟨lb, ek, rb, n, j, st, d, j2, st2, d2⟩ w) : Calls Tryz.prog 26 #[.pointer (some ⟨dk, 0, none⟩)] w fun e w' => e = .returned (.int .i64 d.reads) ∧ Adds w w' := by
  obtain ⟨S0, h1⟩ := pl_disk h
  exact dReads_fp h1
end
set_option maxRecDepth 100000 in
set_option maxHeartbeats 4000000 in
theorem lWalPlays_c (n : Int) {A : Option Addr} {ca : Nat} {tr : List GOp7} {w : World} (hA : SlAt opC7 7 35 A tr w) (hTr : Ops7Ok tr w) (na : tr.length ≤ 9223372036854775807) : Calls Tryz.prog 3 #[.int .i64 n, .slice A tr.length ca] w fun e w' => e = .returned (.bool true) ∧ Adds w w' := by
  have K : Keeps (fun _ => False) w w := Keeps.refl _ w
  refine Calls.start Tryz.func3 rfl (by kernel_rfl) ?_
  refine WC.seq ?_
  refine WC.region ?_
  refine WL.op (d := 4) (.bool false) (k := ?_)
  refine WL.nil ?_
  refine WX.seqN ?_
  refine WC.seq ?_
  refine WC.region ?_
  refine WL.callG (d := 18) (f := 4) (args := #[]) (l07awake_c w) (k := fun e_ w1 h_ => ⟨.bool true, h_.1, ?_⟩)
  have k2 := h_.2; clear h_
  replace K := K.trans (k2.any _)
  refine WL.op (d := 5) (.bool true) (k := ?_)
  refine WL.nil ?_
  refine WX.seqN ?_
  refine WC.seq ?_
  refine WC.region ?_
  refine WL.op (d := 19) (.int .i64 n) (k := ?_)
  refine WL.bin (d := 20) (v := .int .i64 (bits BinOp.and IntKind.i64 n 7)) (bits_run (by decide)) (k := ?_)
  obtain ⟨m, hm, m0, m1⟩ : ∃ m : Nat, bits BinOp.and IntKind.i64 n 7 = (m : Int) - 1 ∧ 1 ≤ m ∧ m ≤ 8 := ⟨(bits BinOp.and IntKind.i64 n 7 + 1).toNat, by have := and7_eq (x := n); omega, by have := and7_eq (x := n); omega, by have := and7_eq (x := n); omega⟩
  refine WL.rw (t := 20) (v := .int .i64 ((m : Int) - 1)) (congrArg (Value.int .i64) hm) (k := ?_)
  refine WL.opE (d := 21) (.int .i64 (IntKind.i64.wrap (1 + ((m : Int) - 1)))) (v := .int .i64 (m : Int)) (congrArg (Value.int .i64) ((IntWalk.i64_in _ (by omega)).trans (by omega))) (k := ?_)
  refine WL.op (d := 6) (.int .i64 (m : Int)) (k := ?_)
  refine WL.nil ?_
  refine WX.seqN ?_
  refine WC.seq ?_
  refine WC.region ?_
  refine WL.op (d := 22) (.int .i64 (m : Int)) (k := ?_)
  refine WL.opE (d := 23) (.int .i64 (IntKind.i64.wrap ((m : Int) + 2))) (v := .int .i64 ((m + 2 : Nat) : Int)) (congrArg (Value.int .i64) ((IntWalk.i64_in _ (by omega)).trans (by omega))) (k := ?_)
  refine WL.callG (d := 24) (f := 5) (args := #[.int .i64 ((m + 2 : Nat) : Int)]) (dNew_ok (n := m + 2) (by omega) (by omega) w1) (k := fun e_ w3 h_ => ?_)
  obtain ⟨b4, S5, rfl, g6, hd7, ho8, k9⟩ := h_
  refine ⟨_, rfl, ?_⟩
  have lk10 : ∀ k, S5 k → False ∨ w.heap.size ≤ k := fun k h => .inr (Nat.le_trans K.size (ho8 k h))
  have z11 := Nat.le_trans K.size g6
  replace K := K.trans (k9.any _)
  refine WL.op (d := 7) (.pointer (some ⟨b4, 0, none⟩)) (k := ?_)
  refine WL.nil ?_
  refine WX.seqN ?_
  refine WC.seq ?_
  refine WC.region ?_
  refine WL.op (d := 25) (.pointer (some ⟨b4, 0, none⟩)) (k := ?_)
  refine WL.op (d := 26) (.int .i64 (m : Int)) (k := ?_)
  refine WL.callG (d := 27) (f := 6) (args := #[.pointer (some ⟨b4, 0, none⟩), .int .i64 1, .int .i64 (m : Int)]) (wlNew_ok (at_ := 1) (n := (m : Int)) hd7 (by omega) (by omega) ⟨by decide, by omega, by simp only [GDisk.zero, List.length_replicate]; omega⟩) (k := fun e_ w12 h_ => ?_)
  obtain ⟨b13, rfl, g14, hb15, k16⟩ := h_
  refine ⟨_, rfl, ?_⟩
  have z17 := Nat.le_trans K.size g14
  have n18 : ¬ S5 b13 := fun h => absurd (hd7.lt _ h) (Nat.not_lt.2 g14)
  replace hd7 := hd7.adds k16
  replace K := K.trans (k16.any _)
  refine WL.op (d := 8) (.pointer (some ⟨b13, 0, none⟩)) (k := ?_)
  refine WL.nil ?_
  refine WX.seqN ?_
  refine WC.seq ?_
  refine WC.seq ?_
  refine WC.region ?_
  refine WL.op (d := 28) (.pointer (some ⟨b4, 0, none⟩)) (k := ?_)
  refine WL.op (d := 29) (.bool false) (k := ?_)
  refine WL.op (d := 30) (.bool false) (k := ?_)
  refine WL.op (d := 31) (.pointer (some ⟨b13, 0, none⟩)) (k := ?_)
  refine WL.op (d := 32) (.bool false) (k := ?_)
  refine WL.op (d := 33) (.bool false) (k := ?_)
  refine WL.nil ?_
  refine WX.seqN ?_
  refine WC.condF (k := ?_)
  refine WC.skip ?_
  refine WX.seqN ?_
  refine WC.seq ?_
  refine WC.region ?_
  refine WL.op (d := 34) (.int .i64 (m : Int)) (k := ?_)
  refine WL.opE (d := 35) (.int .i64 (IntKind.i64.wrap ((m : Int) + 2))) (v := .int .i64 ((m + 2 : Nat) : Int)) (congrArg (Value.int .i64) ((IntWalk.i64_in _ (by omega)).trans (by omega))) (k := ?_)
  refine WL.callG (d := 36) (f := 7) (args := #[.int .i64 ((m + 2 : Nat) : Int)]) (rdNew_c (n := m + 2) (by omega) w12) (k := fun e_ w19 h_ => ?_)
  obtain ⟨b20, S21, rfl, g22, hd23, ho24, k25⟩ := h_
  refine ⟨_, rfl, ?_⟩
  have n26 : ¬ S21 b4 := fun h => absurd (hd7.lt _ hd7.mem) (Nat.not_lt.2 (ho24 _ h))
  have n27 : ¬ S21 b13 := fun h => absurd (lt_of_heap hb15) (Nat.not_lt.2 (ho24 _ h))
  have dj28 : ∀ i, S5 i → ¬ S21 i := fun i h1 h2 => absurd (hd7.lt i h1) (Nat.not_lt.2 (ho24 i h2))
  have lk29 : ∀ k, S21 k → False ∨ w.heap.size ≤ k := fun k h => .inr (Nat.le_trans K.size (ho24 k h))
  have z30 := Nat.le_trans K.size g22
  have n31 : ¬ S5 b20 := fun h => absurd (hd7.lt _ h) (Nat.not_lt.2 g22)
  have n32 : b13 ≠ b20 := Nat.ne_of_lt (Nat.lt_of_lt_of_le (lt_of_heap hb15) g22)
  replace hd7 := hd7.adds k25
  replace hb15 := k25.heap hb15 id
  replace K := K.trans (k25.any _)
  refine WL.op (d := 9) (.pointer (some ⟨b20, 0, none⟩)) (k := ?_)
  refine WL.nil ?_
  refine WX.seqN ?_
  refine WC.seq ?_
  refine WC.region ?_
  refine WL.op (d := 37) (.pointer (some ⟨b20, 0, none⟩)) (k := ?_)
  refine WL.op (d := 38) (.int .i64 (m : Int)) (k := ?_)
  refine WL.callG (d := 39) (f := 8) (args := #[.pointer (some ⟨b20, 0, none⟩), .int .i64 1, .int .i64 (m : Int)]) (rlNew_c (dk := b20) (at_ := 1) (n := (m : Int)) w19) (k := fun e_ w33 h_ => ?_)
  obtain ⟨b34, rfl, g35, hb36, k37⟩ := h_
  refine ⟨_, rfl, ?_⟩
  have z38 := Nat.le_trans K.size g35
  have n39 : ¬ S5 b34 := fun h => absurd (hd7.lt _ h) (Nat.not_lt.2 g35)
  have n40 : b13 ≠ b34 := Nat.ne_of_lt (Nat.lt_of_lt_of_le (lt_of_heap hb15) g35)
  have n41 : ¬ S21 b34 := fun h => absurd (hd23.lt _ h) (Nat.not_lt.2 g35)
  replace hd7 := hd7.adds k37
  replace hb15 := k37.heap hb15 id
  replace hd23 := hd23.adds k37
  replace K := K.trans (k37.any _)
  refine WL.op (d := 10) (.pointer (some ⟨b34, 0, none⟩)) (k := ?_)
  refine WL.nil ?_
  refine WX.seqN ?_
  refine WC.seq ?_
  refine WC.seq ?_
  refine WC.region ?_
  refine WL.op (d := 11) (.int .i64 0) (k := ?_)
  refine WL.nil ?_
  refine WX.seqN ?_
  refine WC.block ?_
  have hp_ := PlAt.mk (n := m) m0 m1 hd7 hb15 n18 hd23 hb36 n41 dj28 n39 n27 (n40)
  have lkp_ : ∀ k, (fun i => (S5 i ∨ i = b13) ∨ (S21 i ∨ i = b34)) k → False ∨ w.heap.size ≤ k := fun k h => h.elim (fun h => h.elim (lk10 k) (fun h => .inr (h ▸ z17))) (fun h => h.elim (lk29 k) (fun h => .inr (h ▸ z38)))
  refine WC.loop (ι := Int × Nat × (Option (Nat × Nat)) × GDisk × (Nat → Prop)) (fun (⟨i, j, st, d, Si⟩ : Int × Nat × (Option (Nat × Nat)) × GDisk × (Nat → Prop)) => [(0, .int .i64 n), (1, .slice A tr.length ca), (18, .bool true), (5, .bool true), (19, .int .i64 n), (20, .int .i64 ((m : Int) - 1)), (21, .int .i64 (m : Int)), (6, .int .i64 (m : Int)), (22, .int .i64 (m : Int)), (23, .int .i64 ((m + 2 : Nat) : Int)), (24, .pointer (some ⟨b4, 0, none⟩)), (7, .pointer (some ⟨b4, 0, none⟩)), (25, .pointer (some ⟨b4, 0, none⟩)), (26, .int .i64 (m : Int)), (27, .pointer (some ⟨b13, 0, none⟩)), (8, .pointer (some ⟨b13, 0, none⟩)), (28, .pointer (some ⟨b4, 0, none⟩)), (29, .bool false), (30, .bool false), (31, .pointer (some ⟨b13, 0, none⟩)), (32, .bool false), (33, .bool false), (34, .int .i64 (m : Int)), (35, .int .i64 ((m + 2 : Nat) : Int)), (36, .pointer (some ⟨b20, 0, none⟩)), (9, .pointer (some ⟨b20, 0, none⟩)), (37, .pointer (some ⟨b20, 0, none⟩)), (38, .int .i64 (m : Int)), (39, .pointer (some ⟨b34, 0, none⟩)), (10, .pointer (some ⟨b34, 0, none⟩)), (11, .int .i64 i)]) (fun (⟨i, j, st, d, Si⟩ : Int × Nat × (Option (Nat × Nat)) × GDisk × (Nat → Prop)) (w_ : World) => (Keeps (fun _ => False) w w_) ∧ (PlAt Si b4 (⟨b13, b20, b34, m, j, st, d, j, st, d⟩ : PL) w_) ∧ (∀ k, Si k → (fun _ => False) k ∨ w.heap.size ≤ k) ∧ (0 ≤ i) ∧ (i ≤ 40) ∧ ((j : Int) ≤ i)) (fun (⟨i, j, st, d, Si⟩ : Int × Nat × (Option (Nat × Nat)) × GDisk × (Nat → Prop)) => (40 - i).toNat) (0, 0, none, (GDisk.zero (m + 2)), (fun i => (S5 i ∨ i = b13) ∨ (S21 i ∨ i = b34))) ⟨(by kernel_rfl), (by kernel_rfl), (by kernel_rfl), (by kernel_rfl), (by kernel_rfl), (by kernel_rfl), (by kernel_rfl), (by kernel_rfl), (by kernel_rfl), (by kernel_rfl), (by kernel_rfl), (by kernel_rfl), (by kernel_rfl), (by kernel_rfl), (by kernel_rfl), (by kernel_rfl), (by kernel_rfl), (by kernel_rfl), (by kernel_rfl), (by kernel_rfl), (by kernel_rfl), (by kernel_rfl), (by kernel_rfl), (by kernel_rfl), (by kernel_rfl), (by kernel_rfl), (by kernel_rfl), (by kernel_rfl), (by kernel_rfl), (by kernel_rfl), (by kernel_rfl), trivial⟩ ⟨K, hp_, lkp_, Int.le_refl 0, (by decide), (by decide)⟩ ?_
  rintro ⟨i, j, st, d, Si⟩ w42 ⟨K, hb43, lk44, i0, i1, hj⟩
  refine WC.seq ?_
  refine WC.seq ?_
  refine WC.region ?_
  refine WL.op (d := 40) (.int .i64 i) (k := ?_)
  refine WL.op (d := 41) (.slice A tr.length ca) (k := ?_)
  refine WL.op (d := 42) (.int .i64 (tr.length : Int)) (k := ?_)
  refine WL.op (d := 43) (.bool (decide (i < (tr.length : Int)))) (k := ?_)
  refine WL.op (d := 44) (.bool (decide (i < (tr.length : Int)))) (k := ?_)
  refine bsplit (decide (i < (tr.length : Int))) (fun h45 => ?_) (fun h45 => ?_)
  · have ph45 := of_decide_eq_true h45
    refine WL.rw (t := 44) (v := .bool true) (congrArg Value.bool h45) (k := ?_)
    refine WL.op (d := 45) (.int .i64 i) (k := ?_)
    refine WL.op (d := 46) (.bool (decide (i < 40))) (k := ?_)
    refine WL.op (d := 47) (.bool (decide (i < 40))) (k := ?_)
    refine WL.nil ?_
    refine WX.seqN ?_
    refine WC.cond (b := decide (i < 40)) (ht := fun h46 => ?_) (hf := fun h46 => ?_)
    · have ph46 := of_decide_eq_true h46
      refine WC.skip ?_
      refine WX.seqN ?_
      refine WC.seq ?_
      refine WC.block ?_
      refine WC.seq ?_
      refine WC.region ?_
      refine WL.op (d := 50) (.slice A tr.length ca) (k := ?_)
      refine WL.op (d := 51) (.int .i64 i) (k := ?_)
      obtain ⟨b47, o48, r49, hr50, hA51, he52⟩ := SlAt.at hA (i := i) (by omega) (by omega)
      refine WL.rw (t := 50) (v := .slice (some ⟨b47, o48, none⟩) tr.length ca) (congrArg (fun a => Value.slice a tr.length ca) hA51) (k := ?_)
      obtain ⟨ht53, he56, hf54, hl55⟩ := hTr _ (List.mem_of_getElem? hr50)
      refine WL.idx (T := 22) (E := 35) (m := 7) (b := b47) (o := o48) (len := tr.length) (cap := ca) (i := i) (kk := .i64) (d := 52) (by omega) (by omega) (k := ?_)
      refine WL.rw (t := 50) (v := .slice A tr.length ca) (congrArg (fun a => Value.slice a tr.length ca) (Eq.symm hA51)) (k := ?_)
      refine WL.load (v := .agg #[.int .i64 r49.k, .int .i64 r49.n, .string ⟨(r49.t).toArray⟩, .int .u64 ((r49.e : Nat) : Int), .bool r49.nr, .bool r49.cr, .slice r49.A r49.fs.length r49.c]) ((he52.adds K).ldW (T := 35)) (k := ?_)
      refine WL.new (d := 12) (T := 35) #[.int .i64 0, .int .i64 0, .string ⟨#[]⟩, .int .u64 0, .bool false, .bool false, .slice none 0 0] (k := fun b57 w58 g59 hb60 k61 => ?_)
      have z62 := Nat.le_trans K.size g59
      have n63 : ¬ Si b57 := fun h => absurd (hb43.lt _ h) (Nat.not_lt.2 g59)
      replace hb43 := hb43.adds k61
      replace K := K.trans (k61.any _)
      refine WL.store (v := .agg #[.int .i64 r49.k, .int .i64 r49.n, .string ⟨(r49.t).toArray⟩, .int .u64 ((r49.e : Nat) : Int), .bool r49.nr, .bool r49.cr, .slice r49.A r49.fs.length r49.c]) (i := 0) (cs' := #[.int .i64 r49.k, .int .i64 r49.n, .string ⟨(r49.t).toArray⟩, .int .u64 ((r49.e : Nat) : Int), .bool r49.nr, .bool r49.cr, .slice r49.A r49.fs.length r49.c]) hb60 (k := fun w64 hb65 k66 => ?_)
      replace hb43 := hb43.keeps k66 (fun i hi e => n63 (e ▸ hi))
      replace K := K.trans' k66 (fun i hi e => absurd (e ▸ hi) (Nat.not_lt.2 z62))
      clear hb60
      refine WL.nil ?_
      refine WX.seqN ?_
      refine WC.seqW (ι := Nat) (fun (e1 : Nat) => [(0, .int .i64 n), (1, .slice A tr.length ca), (18, .bool true), (5, .bool true), (19, .int .i64 n), (20, .int .i64 ((m : Int) - 1)), (21, .int .i64 (m : Int)), (6, .int .i64 (m : Int)), (22, .int .i64 (m : Int)), (23, .int .i64 ((m + 2 : Nat) : Int)), (24, .pointer (some ⟨b4, 0, none⟩)), (7, .pointer (some ⟨b4, 0, none⟩)), (25, .pointer (some ⟨b4, 0, none⟩)), (26, .int .i64 (m : Int)), (27, .pointer (some ⟨b13, 0, none⟩)), (8, .pointer (some ⟨b13, 0, none⟩)), (28, .pointer (some ⟨b4, 0, none⟩)), (29, .bool false), (30, .bool false), (31, .pointer (some ⟨b13, 0, none⟩)), (32, .bool false), (33, .bool false), (34, .int .i64 (m : Int)), (35, .int .i64 ((m + 2 : Nat) : Int)), (36, .pointer (some ⟨b20, 0, none⟩)), (9, .pointer (some ⟨b20, 0, none⟩)), (37, .pointer (some ⟨b20, 0, none⟩)), (38, .int .i64 (m : Int)), (39, .pointer (some ⟨b34, 0, none⟩)), (10, .pointer (some ⟨b34, 0, none⟩)), (11, .int .i64 i), (40, .int .i64 i), (41, .slice A tr.length ca), (42, .int .i64 (tr.length : Int)), (43, .bool (decide (i < (tr.length : Int)))), (44, .bool true), (45, .int .i64 i), (46, .bool (decide (i < 40))), (47, .bool (decide (i < 40))), (50, .slice A tr.length ca), (51, .int .i64 i), (52, .pointer (some ⟨b47, o48 + (i).toNat * 7, none⟩)), (53, .agg #[.int .i64 r49.k, .int .i64 r49.n, .string ⟨(r49.t).toArray⟩, .int .u64 ((r49.e : Nat) : Int), .bool r49.nr, .bool r49.cr, .slice r49.A r49.fs.length r49.c]), (12, .pointer (some ⟨b57, 0, none⟩))]) (fun (e1 : Nat) (w_ : World) => (Keeps (fun _ => False) w w_) ∧ (PlAt Si b4 (⟨b13, b20, b34, m, j, st, d, j, st, d⟩ : PL) w_) ∧ (∀ k, Si k → (fun _ => False) k ∨ w.heap.size ≤ k) ∧ (¬ Si b57) ∧ (w_.heap[b57]? = some (.cells #[.int .i64 r49.k, .int .i64 r49.n, .string ⟨(r49.t).toArray⟩, .int .u64 ((e1 : Nat) : Int), .bool r49.nr, .bool r49.cr, .slice r49.A r49.fs.length r49.c] 35 (0, 0))) ∧ (e1 < 18446744073709551616)) ?_ ?_
      · rintro e1 w67 ⟨K, hb68, lk69, n70, hb71, he1⟩
        refine WC.seq ?_
        refine WC.region ?_
        refine WL.op (d := 13) (.bool true) (k := ?_)
        refine WL.nil ?_
        refine WX.seqN ?_
        refine WC.seqW (ι := Nat × (Option (Nat × Nat)) × GDisk × (Nat → Prop)) (fun (⟨j1, st1, d1, Sn⟩ : Nat × (Option (Nat × Nat)) × GDisk × (Nat → Prop)) => [(0, .int .i64 n), (1, .slice A tr.length ca), (18, .bool true), (5, .bool true), (19, .int .i64 n), (20, .int .i64 ((m : Int) - 1)), (21, .int .i64 (m : Int)), (6, .int .i64 (m : Int)), (22, .int .i64 (m : Int)), (23, .int .i64 ((m + 2 : Nat) : Int)), (24, .pointer (some ⟨b4, 0, none⟩)), (7, .pointer (some ⟨b4, 0, none⟩)), (25, .pointer (some ⟨b4, 0, none⟩)), (26, .int .i64 (m : Int)), (27, .pointer (some ⟨b13, 0, none⟩)), (8, .pointer (some ⟨b13, 0, none⟩)), (28, .pointer (some ⟨b4, 0, none⟩)), (29, .bool false), (30, .bool false), (31, .pointer (some ⟨b13, 0, none⟩)), (32, .bool false), (33, .bool false), (34, .int .i64 (m : Int)), (35, .int .i64 ((m + 2 : Nat) : Int)), (36, .pointer (some ⟨b20, 0, none⟩)), (9, .pointer (some ⟨b20, 0, none⟩)), (37, .pointer (some ⟨b20, 0, none⟩)), (38, .int .i64 (m : Int)), (39, .pointer (some ⟨b34, 0, none⟩)), (10, .pointer (some ⟨b34, 0, none⟩)), (11, .int .i64 i), (40, .int .i64 i), (41, .slice A tr.length ca), (42, .int .i64 (tr.length : Int)), (43, .bool (decide (i < (tr.length : Int)))), (44, .bool true), (45, .int .i64 i), (46, .bool (decide (i < 40))), (47, .bool (decide (i < 40))), (50, .slice A tr.length ca), (51, .int .i64 i), (52, .pointer (some ⟨b47, o48 + (i).toNat * 7, none⟩)), (53, .agg #[.int .i64 r49.k, .int .i64 r49.n, .string ⟨(r49.t).toArray⟩, .int .u64 ((r49.e : Nat) : Int), .bool r49.nr, .bool r49.cr, .slice r49.A r49.fs.length r49.c]), (12, .pointer (some ⟨b57, 0, none⟩)), (13, .bool true)]) (fun (⟨j1, st1, d1, Sn⟩ : Nat × (Option (Nat × Nat)) × GDisk × (Nat → Prop)) (w_ : World) => (Keeps (fun _ => False) w w_) ∧ (PlAt Sn b4 (⟨b13, b20, b34, m, j1, st1, d1, j1, st1, d1⟩ : PL) w_) ∧ (∀ k, Sn k → (fun _ => False) k ∨ w.heap.size ≤ k) ∧ (¬ Sn b57) ∧ (w_.heap[b57]? = some (.cells #[.int .i64 r49.k, .int .i64 r49.n, .string ⟨(r49.t).toArray⟩, .int .u64 ((e1 : Nat) : Int), .bool r49.nr, .bool r49.cr, .slice r49.A r49.fs.length r49.c] 35 (0, 0))) ∧ ((j1 : Int) ≤ i + 1)) ?_ ?_
        · rintro ⟨j1, st1, d1, Sn⟩ w72 ⟨K, hb73, lk74, n75, hb76, hj1⟩
          refine WC.seq ?_
          obtain ⟨A1_, c1_, A2_, c2_, hb77⟩ := ql_block hb73
          refine WC.quiet (k := ?_)
          refine WQ.op (d := 134) (.bool true) (k := ?_)
          refine WQ.op (d := 135) (.bool false) (k := ?_)
          refine WQ.op (d := 136) (.bool false) (k := ?_)
          refine WQ.op (d := 137) (.pointer (some ⟨b13, 0, none⟩)) (k := ?_)
          refine WQ.callG (d := 138) (f := 21) (args := #[.pointer (some ⟨b13, 0, none⟩)]) (v := .int .i64 (lfF (m : Int) st1)) (fun w_ k_ => pl_lefts (hb73.adds k_)) addsR (k := ?_)
          refine WQ.op (d := 139) (.pointer (some ⟨b34, 0, none⟩)) (k := ?_)
          refine WQ.callG (d := 140) (f := 22) (args := #[.pointer (some ⟨b34, 0, none⟩)]) (v := .int .i64 (lfF (m : Int) st1)) (fun w_ k_ => ql_lefts (hb73.adds k_)) addsR (k := ?_)
          refine WQ.opE (d := 141) (.bool ((lfF (m : Int) st1) != (lfF (m : Int) st1))) (v := .bool false) (congrArg Value.bool (bne_self_eq_false ((lfF (m : Int) st1) : Int))) (k := ?_)
          refine WQ.op (d := 142) (.bool false) (k := ?_)
          refine WQ.op (d := 143) (.bool false) (k := ?_)
          refine WQ.op (d := 144) (.pointer (some ⟨b13, 0, none⟩)) (k := ?_)
          refine WQ.callG (d := 145) (f := 23) (args := #[.pointer (some ⟨b13, 0, none⟩)]) (v := .int .i64 (lnF st1)) (fun w_ k_ => pl_len (hb73.adds k_)) addsR (k := ?_)
          refine WQ.op (d := 146) (.pointer (some ⟨b34, 0, none⟩)) (k := ?_)
          refine WQ.callG (d := 147) (f := 24) (args := #[.pointer (some ⟨b34, 0, none⟩)]) (v := .int .i64 (lnF st1)) (fun w_ k_ => ql_many (hb73.adds k_)) addsR (k := ?_)
          refine WQ.opE (d := 148) (.bool ((lnF st1) != (lnF st1))) (v := .bool false) (congrArg Value.bool (bne_self_eq_false ((lnF st1) : Int))) (k := ?_)
          refine WQ.op (d := 149) (.bool false) (k := ?_)
          refine WQ.op (d := 150) (.bool false) (k := ?_)
          refine WQ.op (d := 151) (.pointer (some ⟨b4, 0, none⟩)) (k := ?_)
          refine WQ.callG (d := 152) (f := 25) (args := #[.pointer (some ⟨b4, 0, none⟩)]) (v := .int .i64 ((GDisk.opn d1).length : Int)) (fun w_ k_ => pl_opn (hb73.adds k_)) addsR (k := ?_)
          refine WQ.op (d := 153) (.pointer (some ⟨b20, 0, none⟩)) (k := ?_)
          refine WQ.op (d := 154) (.pointer (some ⟨b20, 0, none⟩)) (k := ?_)
          refine WQ.op (d := 155) (.pointer (some ⟨b20, 1, none⟩)) (k := ?_)
          refine WQ.load (v := .slice A2_ ((GDisk.opn d1).length) c2_) (fun w_ k_ => ld1 (T := 47) (i := 1) (k_.heap hb77 id)) (k := ?_)
          refine WQ.op (d := 157) (.int .i64 ((GDisk.opn d1).length : Int)) (k := ?_)
          refine WQ.opE (d := 158) (.bool (((GDisk.opn d1).length : Int) != ((GDisk.opn d1).length : Int))) (v := .bool false) (congrArg Value.bool (bne_self_eq_false (((GDisk.opn d1).length : Int) : Int))) (k := ?_)
          refine WQ.op (d := 159) (.bool false) (k := ?_)
          refine WQ.op (d := 160) (.bool false) (k := ?_)
          refine WQ.op (d := 161) (.pointer (some ⟨b4, 0, none⟩)) (k := ?_)
          refine WQ.callG (d := 162) (f := 26) (args := #[.pointer (some ⟨b4, 0, none⟩)]) (v := .int .i64 (GDisk.reads d1)) (fun w_ k_ => pl_reads (hb73.adds k_)) addsR (k := ?_)
          refine WQ.op (d := 163) (.pointer (some ⟨b20, 0, none⟩)) (k := ?_)
          refine WQ.op (d := 164) (.pointer (some ⟨b20, 0, none⟩)) (k := ?_)
          refine WQ.op (d := 165) (.pointer (some ⟨b20, 3, none⟩)) (k := ?_)
          refine WQ.load (v := .int .i64 (GDisk.reads d1)) (fun w_ k_ => ld1 (T := 3) (i := 3) (k_.heap hb77 id)) (k := ?_)
          refine WQ.opE (d := 167) (.bool ((GDisk.reads d1) != (GDisk.reads d1))) (v := .bool false) (congrArg Value.bool (bne_self_eq_false ((GDisk.reads d1) : Int))) (k := ?_)
          refine WQ.op (d := 168) (.bool false) (k := ?_)
          refine WQ.nilX (fun w78 k79 => ?_)
          replace hb73 := hb73.adds k79
          replace hb76 := k79.heap hb76 id
          replace hb77 := k79.heap hb77 id
          replace K := K.trans (k79.any _)
          refine WX.seqN ?_
          refine WC.condF (k := ?_)
          refine WC.skip ?_
          refine WX.blockN ?_
          refine WX.seqN ?_
          refine WC.region ?_
          refine WL.op (d := 48) (.int .i64 i) (k := ?_)
          refine WL.opE (d := 49) (.int .i64 (IntKind.i64.wrap (i + 1))) (v := .int .i64 (i + 1)) (congrArg (Value.int .i64) (IntWalk.i64_in _ (by omega))) (k := ?_)
          refine WL.op (d := 11) (.int .i64 (i + 1)) (k := ?_)
          refine WL.nil ?_
          refine WX.round (i + 1, j1, st1, d1, Sn) (by show (40 - (i + 1)).toNat < (40 - i).toNat; omega) ⟨(by kernel_rfl), (by kernel_rfl), (by kernel_rfl), (by kernel_rfl), (by kernel_rfl), (by kernel_rfl), (by kernel_rfl), (by kernel_rfl), (by kernel_rfl), (by kernel_rfl), (by kernel_rfl), (by kernel_rfl), (by kernel_rfl), (by kernel_rfl), (by kernel_rfl), (by kernel_rfl), (by kernel_rfl), (by kernel_rfl), (by kernel_rfl), (by kernel_rfl), (by kernel_rfl), (by kernel_rfl), (by kernel_rfl), (by kernel_rfl), (by kernel_rfl), (by kernel_rfl), (by kernel_rfl), (by kernel_rfl), (by kernel_rfl), (by kernel_rfl), (by kernel_rfl), trivial⟩ ⟨K, hb73, lk74, (by omega), (by omega), (by omega)⟩
        · refine WC.seq ?_
          refine WC.region ?_
          refine WL.op (d := 60) (.pointer (some ⟨b57, 0, none⟩)) (k := ?_)
          refine WL.load (v := .int .i64 r49.k) (ld1 (T := 3) (i := 0) hb71) (k := ?_)
          refine WL.bin (d := 62) (v := .int .i64 (bits BinOp.and IntKind.i64 r49.k 7)) (bits_run (by decide)) (k := ?_)
          obtain ⟨an80, ha81⟩ : ∃ q : Int, bits BinOp.and IntKind.i64 r49.k 7 = q := ⟨_, rfl⟩
          have ar82 := and7_eq (x := r49.k)
          rw [ha81] at ar82
          refine WL.rw (t := 62) (v := .int .i64 an80) (congrArg (Value.int .i64) ha81) (k := ?_)
          refine WL.nil ?_
          refine WX.seqN ?_
          refine WC.block ?_
          refine WC.seq ?_
          refine WC.region ?_
          refine WL.op (d := 75) (.bool (an80 == 4)) (k := ?_)
          refine WL.op (d := 74) (.bool (an80 == 4)) (k := ?_)
          refine WL.nil ?_
          refine WX.seqN ?_
          refine WC.cond (b := an80 == 4) (ht := fun h83 => ?_) (hf := fun h83 => ?_)
          · have ph83 := eq_of_beq h83
            refine WC.seq ?_
            refine WC.region ?_
            refine WL.op (d := 77) (.pointer (some ⟨b13, 0, none⟩)) (k := ?_)
            refine WL.op (d := 78) (.pointer (some ⟨b57, 3, none⟩)) (k := ?_)
            refine WL.load (v := .int .u64 ((e1 : Nat) : Int)) (ld1 (T := 32) (i := 3) hb71) (k := ?_)
            refine bsplit (decide (e1 = 0)) (fun h84 => ?_) (fun h84 => ?_)
            · have ph84 := of_decide_eq_true h84
              refine WL.callG (d := 80) (f := 9) (args := #[.pointer (some ⟨b13, 0, none⟩), .int .u64 ((e1 : Nat) : Int)]) (pl_scan0 (e := e1) (b := b13) ph84 w67) (k := fun e_ w85 h_ => ⟨.tuple #[.slice none 0 0, .int .i64 1], h_.1, ?_⟩)
              have k86 := h_.2; clear h_
              replace hb68 := hb68.adds k86
              replace hb71 := k86.heap hb71 id
              replace K := K.trans (k86.any _)
              refine WL.op (d := 76) (.tuple #[.slice none 0 0, .int .i64 1]) (k := ?_)
              refine WL.op (d := 81) (.slice none 0 0) (k := ?_)
              refine WL.op (d := 82) (.int .i64 1) (k := ?_)
              refine WL.op (d := 14) (.slice none 0 0) (k := ?_)
              refine WL.op (d := 15) (.int .i64 1) (k := ?_)
              refine WL.nil ?_
              refine WX.seqN ?_
              refine WC.seq ?_
              refine WC.region ?_
              refine WL.op (d := 84) (.pointer (some ⟨b34, 0, none⟩)) (k := ?_)
              refine WL.op (d := 85) (.pointer (some ⟨b57, 3, none⟩)) (k := ?_)
              refine WL.load (v := .int .u64 ((e1 : Nat) : Int)) (ld1 (T := 32) (i := 3) hb71) (k := ?_)
              refine WL.callG (d := 87) (f := 10) (args := #[.pointer (some ⟨b34, 0, none⟩), .int .u64 ((e1 : Nat) : Int)]) (ql_scan0 (e := e1) (b := b34) ph84 w85) (k := fun e_ w87 h_ => ⟨.tuple #[.slice none 0 0, .int .i64 1], h_.1, ?_⟩)
              have k88 := h_.2; clear h_
              replace hb68 := hb68.adds k88
              replace hb71 := k88.heap hb71 id
              replace K := K.trans (k88.any _)
              refine WL.op (d := 83) (.tuple #[.slice none 0 0, .int .i64 1]) (k := ?_)
              refine WL.op (d := 88) (.slice none 0 0) (k := ?_)
              refine WL.op (d := 89) (.int .i64 1) (k := ?_)
              refine WL.op (d := 16) (.slice none 0 0) (k := ?_)
              refine WL.op (d := 17) (.int .i64 1) (k := ?_)
              refine WL.nil ?_
              refine WX.seqN ?_
              refine WC.region ?_
              refine WL.op (d := 90) (.slice none 0 0) (k := ?_)
              refine WL.op (d := 91) (.slice none 0 0) (k := ?_)
              have h89 : (decide (([] : List (List UInt8)) = ([] : List (List UInt8)))) = true := decide_eq_true rfl
              have ph89 := of_decide_eq_true h89
              refine WL.callG (d := 92) (f := 11) (args := #[.slice none 0 0, .slice none 0 0]) (u04Same_c (xs := ([] : List (List UInt8))) (ys := ([] : List (List UInt8))) (cp := 0) (cq := 0) SlAt.nil SlAt.nil (by first | omega | (simp; done)) (by first | omega | (simp; done))) (k := fun e_ w90 h_ => ⟨.bool (decide (([] : List (List UInt8)) = ([] : List (List UInt8)))), h_.1, ?_⟩)
              have k91 := h_.2; clear h_
              replace hb68 := hb68.adds k91
              replace hb71 := k91.heap hb71 id
              replace K := K.trans (k91.any _)
              refine WL.op (d := 93) (.bool (decide (([] : List (List UInt8)) = ([] : List (List UInt8))))) (k := ?_)
              refine WL.rw (t := 93) (v := .bool true) (congrArg Value.bool h89) (k := ?_)
              refine WL.op (d := 94) (.int .i64 1) (k := ?_)
              refine WL.op (d := 95) (.int .i64 1) (k := ?_)
              refine WL.op (d := 96) (.bool true) (k := ?_)
              refine WL.op (d := 97) (.bool true) (k := ?_)
              refine WL.op (d := 13) (.bool true) (k := ?_)
              refine WL.nil ?_
              refine WX.blockN ?_
              exact WX.joinW (j, st, d, Si) ⟨K, hb68, lk69, n70, hb71, (by omega)⟩ ⟨(by kernel_rfl), (by kernel_rfl), (by kernel_rfl), (by kernel_rfl), (by kernel_rfl), (by kernel_rfl), (by kernel_rfl), (by kernel_rfl), (by kernel_rfl), (by kernel_rfl), (by kernel_rfl), (by kernel_rfl), (by kernel_rfl), (by kernel_rfl), (by kernel_rfl), (by kernel_rfl), (by kernel_rfl), (by kernel_rfl), (by kernel_rfl), (by kernel_rfl), (by kernel_rfl), (by kernel_rfl), (by kernel_rfl), (by kernel_rfl), (by kernel_rfl), (by kernel_rfl), (by kernel_rfl), (by kernel_rfl), (by kernel_rfl), (by kernel_rfl), (by kernel_rfl), (by kernel_rfl), (by kernel_rfl), (by kernel_rfl), (by kernel_rfl), (by kernel_rfl), (by kernel_rfl), (by kernel_rfl), (by kernel_rfl), (by kernel_rfl), (by kernel_rfl), (by kernel_rfl), (by kernel_rfl), (by kernel_rfl), (by kernel_rfl), trivial⟩
            · have ph84 := of_decide_eq_false h84
              obtain ⟨X92, hX93⟩ : ∃ X, scF 1 (m : Int) e1 d = X := ⟨_, rfl⟩
              refine WL.callG (d := 80) (f := 9) (args := #[.pointer (some ⟨b13, 0, none⟩), .int .u64 ((e1 : Nat) : Int)]) (pl_scan (e := e1) hb68 ph84 (by omega) hX93) (k := fun e_ w94 h_ => ?_)
              obtain ⟨A95, c96, S97, rfl, hd98, ho99, ol100, n101, lk102, k103⟩ := h_
              refine ⟨_, rfl, ?_⟩
              have ol104 := fun i h => Nat.le_trans K.size (ol100 i h)
              have n105 : ¬ S97 b57 := fun h => (lk102 _ h).elim n70 (fun h2 => absurd (lt_of_heap hb71) (Nat.not_lt.2 h2))
              have lk106 := lk_step lk69 lk102 K
              replace hb71 := k103.heap hb71 n70
              replace K := K.trans' k103 (fun i hi e => (lk69 i e).elim (fun h => h.elim) (fun h => absurd hi (Nat.not_lt.2 h)))
              clear hb68
              have sl107 := scF_len hX93
              refine WL.op (d := 76) (.tuple #[.slice A95 (List.length (ScX.xs X92)) c96, .int .i64 (ScX.bad X92)]) (k := ?_)
              refine WL.op (d := 81) (.slice A95 (List.length (ScX.xs X92)) c96) (k := ?_)
              refine WL.op (d := 82) (.int .i64 (ScX.bad X92)) (k := ?_)
              refine WL.op (d := 14) (.slice A95 (List.length (ScX.xs X92)) c96) (k := ?_)
              refine WL.op (d := 15) (.int .i64 (ScX.bad X92)) (k := ?_)
              refine WL.nil ?_
              refine WX.seqN ?_
              refine WC.seq ?_
              refine WC.region ?_
              refine WL.op (d := 84) (.pointer (some ⟨b34, 0, none⟩)) (k := ?_)
              refine WL.op (d := 85) (.pointer (some ⟨b57, 3, none⟩)) (k := ?_)
              refine WL.load (v := .int .u64 ((e1 : Nat) : Int)) (ld1 (T := 32) (i := 3) hb71) (k := ?_)
              refine WL.callG (d := 87) (f := 10) (args := #[.pointer (some ⟨b34, 0, none⟩), .int .u64 ((e1 : Nat) : Int)]) (ql_scan (e := e1) hd98 ph84 (by omega) hX93) (k := fun e_ w108 h_ => ?_)
              obtain ⟨A109, c110, S111, rfl, hd112, ho113, ol114, n115, lk116, k117⟩ := h_
              refine ⟨_, rfl, ?_⟩
              have ol118 := fun i h => Nat.le_trans K.size (ol114 i h)
              have n119 : ¬ S111 b57 := fun h => (lk116 _ h).elim n105 (fun h2 => absurd (lt_of_heap hb71) (Nat.not_lt.2 h2))
              have n120 : ∀ i, blk A95 = some i → ¬ S111 i := fun i hi h => (lk116 _ h).elim (n101 i hi) (fun h2 => absurd (ho99.lt i hi) (Nat.not_lt.2 h2))
              have lk121 := lk_step lk106 lk116 K
              replace hb71 := k117.heap hb71 n105
              replace ho99 := ho99.keeps k117 n101
              replace K := K.trans' k117 (fun i hi e => (lk106 i e).elim (fun h => h.elim) (fun h => absurd hi (Nat.not_lt.2 h)))
              clear hd98
              have sl122 := scF_len hX93
              refine WL.op (d := 83) (.tuple #[.slice A109 (List.length (ScX.xs X92)) c110, .int .i64 (ScX.bad X92)]) (k := ?_)
              refine WL.op (d := 88) (.slice A109 (List.length (ScX.xs X92)) c110) (k := ?_)
              refine WL.op (d := 89) (.int .i64 (ScX.bad X92)) (k := ?_)
              refine WL.op (d := 16) (.slice A109 (List.length (ScX.xs X92)) c110) (k := ?_)
              refine WL.op (d := 17) (.int .i64 (ScX.bad X92)) (k := ?_)
              refine WL.nil ?_
              refine WX.seqN ?_
              refine WC.region ?_
              refine WL.op (d := 90) (.slice A95 (List.length (ScX.xs X92)) c96) (k := ?_)
              refine WL.op (d := 91) (.slice A109 (List.length (ScX.xs X92)) c110) (k := ?_)
              have h123 : (decide ((ScX.xs X92) = (ScX.xs X92))) = true := decide_eq_true rfl
              have ph123 := of_decide_eq_true h123
              refine WL.callG (d := 92) (f := 11) (args := #[.slice A95 (List.length (ScX.xs X92)) c96, .slice A109 (List.length (ScX.xs X92)) c110]) (u04Same_c (xs := (ScX.xs X92)) (ys := (ScX.xs X92)) (cp := c96) (cq := c110) (ho99.sl ekStr) (ho113.sl ekStr) (by first | omega | (simp; done)) (by first | omega | (simp; done))) (k := fun e_ w124 h_ => ⟨.bool (decide ((ScX.xs X92) = (ScX.xs X92))), h_.1, ?_⟩)
              have k125 := h_.2; clear h_
              replace hd112 := hd112.adds k125
              replace hb71 := k125.heap hb71 id
              replace ho99 := ho99.adds k125
              replace ho113 := ho113.adds k125
              replace K := K.trans (k125.any _)
              refine WL.op (d := 93) (.bool (decide ((ScX.xs X92) = (ScX.xs X92)))) (k := ?_)
              refine WL.rw (t := 93) (v := .bool true) (congrArg Value.bool h123) (k := ?_)
              refine WL.op (d := 94) (.int .i64 (ScX.bad X92)) (k := ?_)
              refine WL.op (d := 95) (.int .i64 (ScX.bad X92)) (k := ?_)
              refine WL.opE (d := 96) (.bool ((ScX.bad X92) == (ScX.bad X92))) (v := .bool true) (congrArg Value.bool (beq_self_eq_true ((ScX.bad X92) : Int))) (k := ?_)
              refine WL.op (d := 97) (.bool true) (k := ?_)
              refine WL.op (d := 13) (.bool true) (k := ?_)
              refine WL.nil ?_
              refine WX.blockN ?_
              exact WX.joinW (j, ScX.st X92, ScX.d X92, S111) ⟨K, hd112, lk121, n119, hb71, (by omega)⟩ ⟨(by kernel_rfl), (by kernel_rfl), (by kernel_rfl), (by kernel_rfl), (by kernel_rfl), (by kernel_rfl), (by kernel_rfl), (by kernel_rfl), (by kernel_rfl), (by kernel_rfl), (by kernel_rfl), (by kernel_rfl), (by kernel_rfl), (by kernel_rfl), (by kernel_rfl), (by kernel_rfl), (by kernel_rfl), (by kernel_rfl), (by kernel_rfl), (by kernel_rfl), (by kernel_rfl), (by kernel_rfl), (by kernel_rfl), (by kernel_rfl), (by kernel_rfl), (by kernel_rfl), (by kernel_rfl), (by kernel_rfl), (by kernel_rfl), (by kernel_rfl), (by kernel_rfl), (by kernel_rfl), (by kernel_rfl), (by kernel_rfl), (by kernel_rfl), (by kernel_rfl), (by kernel_rfl), (by kernel_rfl), (by kernel_rfl), (by kernel_rfl), (by kernel_rfl), (by kernel_rfl), (by kernel_rfl), (by kernel_rfl), (by kernel_rfl), trivial⟩
          · have ph83 := ne_of_beq_false h83
            refine WC.seq ?_
            refine WC.region ?_
            refine WL.op (d := 99) (.bool (an80 == 5)) (k := ?_)
            refine WL.op (d := 98) (.bool (an80 == 5)) (k := ?_)
            refine WL.nil ?_
            refine WX.seqN ?_
            refine WC.cond (b := an80 == 5) (ht := fun h126 => ?_) (hf := fun h126 => ?_)
            · have ph126 := eq_of_beq h126
              refine WC.mixed (fun k => Si k) 9 (k := fun w127 k128 => ?_)
              replace hb68 := hb68.adds k128
              replace hb71 := k128.heap hb71 id
              replace K := K.trans (k128.any _)
              have KC := Keeps.refl (fun k => Si k) w127
              have KCl : ∀ k, Si k → Si k ∨ w127.heap.size ≤ k := fun k h => .inl h
              have bh129 := hb71
              have Kb := K
              refine WA.quiet 0 (d := 100) (.pointer (some ⟨b13, 0, none⟩)) KC (hi := rfl) (k := ?_)
              refine WA.quiet 1 (d := 101) (.pointer (some ⟨b57, 3, none⟩)) KC (hi := rfl) (k := ?_)
              refine WA.quietR 2 (d := 102) (.int .u64 ((e1 : Nat) : Int)) KC (exec_load (fun w_ k_ => ld1 (T := 32) (i := 3) (k_.heap bh129 n70))) (hi := rfl) (k := ?_)
              refine WA.quiet 4 (d := 104) (.pointer (some ⟨b34, 0, none⟩)) KC (hi := rfl) (k := ?_)
              refine WA.quiet 5 (d := 105) (.pointer (some ⟨b57, 3, none⟩)) KC (hi := rfl) (k := ?_)
              refine WA.quietR 6 (d := 106) (.int .u64 ((e1 : Nat) : Int)) KC (exec_load (fun w_ k_ => ld1 (T := 32) (i := 3) (k_.heap bh129 n70))) (hi := rfl) (k := ?_)
              refine WA.step 3 (hi := rfl) (k := ?_)
              refine bsplit (decide (e1 = 0)) (fun h130 => ?_) (fun h130 => ?_)
              · have ph130 := of_decide_eq_true h130
                refine WL.callG (d := 103) (f := 12) (args := #[.pointer (some ⟨b13, 0, none⟩), .int .u64 ((e1 : Nat) : Int)]) (pl_start0 (e := e1) (b := b13) ph130 w127) (k := fun e_ w131 h_ => ⟨.int .i64 1, h_.1, ?_⟩)
                have k132 := h_.2; clear h_
                replace hb68 := hb68.adds k132
                replace hb71 := k132.heap hb71 id
                replace K := K.trans (k132.any _)
                replace KC := KC.trans (k132.any _)
                refine WL.nil ?_
                refine WX.nxt KC ?_
                refine WA.step 7 (hi := rfl) (k := ?_)
                refine WL.callG (d := 107) (f := 13) (args := #[.pointer (some ⟨b34, 0, none⟩), .int .u64 ((e1 : Nat) : Int)]) (ql_start0 (e := e1) (b := b34) ph130 w131) (k := fun e_ w133 h_ => ⟨.int .i64 1, h_.1, ?_⟩)
                have k134 := h_.2; clear h_
                replace hb68 := hb68.adds k134
                replace hb71 := k134.heap hb71 id
                replace K := K.trans (k134.any _)
                replace KC := KC.trans (k134.any _)
                refine WL.nil ?_
                refine WX.nxt KC ?_
                refine WA.quiet 8 (d := 108) (.bool true) KC (hi := rfl) (k := ?_)
                refine WA.step 9 (hi := rfl) (k := ?_)
                refine WL.op (d := 13) (.bool true) (k := ?_)
                refine WL.nil ?_
                refine WX.nxtL ?_
                refine WA.done (k := ?_)
                clear KC
                refine WX.blockN ?_
                exact WX.joinW (j, st, d, Si) ⟨K, hb68, lk69, n70, hb71, (by omega)⟩ ⟨(by kernel_rfl), (by kernel_rfl), (by kernel_rfl), (by kernel_rfl), (by kernel_rfl), (by kernel_rfl), (by kernel_rfl), (by kernel_rfl), (by kernel_rfl), (by kernel_rfl), (by kernel_rfl), (by kernel_rfl), (by kernel_rfl), (by kernel_rfl), (by kernel_rfl), (by kernel_rfl), (by kernel_rfl), (by kernel_rfl), (by kernel_rfl), (by kernel_rfl), (by kernel_rfl), (by kernel_rfl), (by kernel_rfl), (by kernel_rfl), (by kernel_rfl), (by kernel_rfl), (by kernel_rfl), (by kernel_rfl), (by kernel_rfl), (by kernel_rfl), (by kernel_rfl), (by kernel_rfl), (by kernel_rfl), (by kernel_rfl), (by kernel_rfl), (by kernel_rfl), (by kernel_rfl), (by kernel_rfl), (by kernel_rfl), (by kernel_rfl), (by kernel_rfl), (by kernel_rfl), (by kernel_rfl), (by kernel_rfl), (by kernel_rfl), trivial⟩
              · have ph130 := of_decide_eq_false h130
                refine WL.callG (d := 103) (f := 12) (args := #[.pointer (some ⟨b13, 0, none⟩), .int .u64 ((e1 : Nat) : Int)]) (pl_start (e := e1) hb68 ph130 (by omega)) (k := fun e_ w135 h_ => ?_)
                obtain ⟨rfl, S136, hd137, lk138, k139⟩ := h_
                refine ⟨_, rfl, ?_⟩
                have n140 : ¬ S136 b57 := fun h => (lk138 _ h).elim n70 (fun h2 => absurd (lt_of_heap hb71) (Nat.not_lt.2 h2))
                have lk141 := lk_step lk69 lk138 K
                have kl142 := lk_step KCl lk138 KC
                replace hb71 := k139.heap hb71 n70
                replace K := K.trans' k139 (fun i hi e => (lk69 i e).elim (fun h => h.elim) (fun h => absurd hi (Nat.not_lt.2 h)))
                replace KC := KC.trans' k139 (fun i hi e => (KCl i e).elim (fun e => e) (fun h => absurd hi (Nat.not_lt.2 h)))
                clear hb68
                refine WL.nil ?_
                refine WX.nxt KC ?_
                refine WA.step 7 (hi := rfl) (k := ?_)
                refine WL.callG (d := 107) (f := 13) (args := #[.pointer (some ⟨b34, 0, none⟩), .int .u64 ((e1 : Nat) : Int)]) (ql_start (e := e1) hd137 ph130 (by omega)) (k := fun e_ w143 h_ => ?_)
                obtain ⟨rfl, S144, hd145, lk146, k147⟩ := h_
                refine ⟨_, rfl, ?_⟩
                have n148 : ¬ S144 b57 := fun h => (lk146 _ h).elim n140 (fun h2 => absurd (lt_of_heap hb71) (Nat.not_lt.2 h2))
                have lk149 := lk_step lk141 lk146 K
                have kl150 := lk_step kl142 lk146 KC
                replace hb71 := k147.heap hb71 n140
                replace K := K.trans' k147 (fun i hi e => (lk141 i e).elim (fun h => h.elim) (fun h => absurd hi (Nat.not_lt.2 h)))
                replace KC := KC.trans' k147 (fun i hi e => (kl142 i e).elim (fun e => e) (fun h => absurd hi (Nat.not_lt.2 h)))
                clear hd137
                refine WL.nil ?_
                refine WX.nxt KC ?_
                refine WA.quiet 8 (d := 108) (.bool true) KC (hi := rfl) (k := ?_)
                refine WA.step 9 (hi := rfl) (k := ?_)
                refine WL.op (d := 13) (.bool true) (k := ?_)
                refine WL.nil ?_
                refine WX.nxtL ?_
                refine WA.done (k := ?_)
                clear KC
                refine WX.blockN ?_
                exact WX.joinW (j, some (e1, 0), d, S144) ⟨K, hd145, lk149, n148, hb71, (by omega)⟩ ⟨(by kernel_rfl), (by kernel_rfl), (by kernel_rfl), (by kernel_rfl), (by kernel_rfl), (by kernel_rfl), (by kernel_rfl), (by kernel_rfl), (by kernel_rfl), (by kernel_rfl), (by kernel_rfl), (by kernel_rfl), (by kernel_rfl), (by kernel_rfl), (by kernel_rfl), (by kernel_rfl), (by kernel_rfl), (by kernel_rfl), (by kernel_rfl), (by kernel_rfl), (by kernel_rfl), (by kernel_rfl), (by kernel_rfl), (by kernel_rfl), (by kernel_rfl), (by kernel_rfl), (by kernel_rfl), (by kernel_rfl), (by kernel_rfl), (by kernel_rfl), (by kernel_rfl), (by kernel_rfl), (by kernel_rfl), (by kernel_rfl), (by kernel_rfl), (by kernel_rfl), (by kernel_rfl), (by kernel_rfl), (by kernel_rfl), (by kernel_rfl), (by kernel_rfl), (by kernel_rfl), (by kernel_rfl), (by kernel_rfl), (by kernel_rfl), trivial⟩
            · have ph126 := ne_of_beq_false h126
              refine WC.seq ?_
              refine WC.region ?_
              refine WL.op (d := 110) (.bool (an80 == 6)) (k := ?_)
              refine WL.op (d := 109) (.bool (an80 == 6)) (k := ?_)
              refine WL.nil ?_
              refine WX.seqN ?_
              refine WC.cond (b := an80 == 6) (ht := fun h151 => ?_) (hf := fun h151 => ?_)
              · have ph151 := eq_of_beq h151
                refine WC.seq ?_
                refine WC.region ?_
                refine WL.op (d := 111) (.pointer (some ⟨b4, 0, none⟩)) (k := ?_)
                refine WL.op (d := 112) (.pointer (some ⟨b57, 1, none⟩)) (k := ?_)
                refine WL.load (v := .int .i64 r49.n) (ld1 (T := 3) (i := 1) hb71) (k := ?_)
                refine WL.bin (d := 114) (v := .int .i64 (bits BinOp.and IntKind.i64 r49.n 3)) (bits_run (by decide)) (k := ?_)
                obtain ⟨an152, ha153⟩ : ∃ q : Int, bits BinOp.and IntKind.i64 r49.n 3 = q := ⟨_, rfl⟩
                have ar154 := and3_eq (x := r49.n)
                rw [ha153] at ar154
                refine WL.rw (t := 114) (v := .int .i64 an152) (congrArg (Value.int .i64) ha153) (k := ?_)
                refine WL.callG (d := 115) (f := 14) (args := #[.pointer (some ⟨b4, 0, none⟩), .int .i64 an152]) (pl_fail (k := an152) hb68 (by omega)) (k := fun e_ w155 h_ => ?_)
                obtain ⟨rfl, S156, hd157, lk158, k159⟩ := h_
                refine ⟨_, rfl, ?_⟩
                have n160 : ¬ S156 b57 := fun h => (lk158 _ h).elim n70 (fun h2 => absurd (lt_of_heap hb71) (Nat.not_lt.2 h2))
                have lk161 := lk_step lk69 lk158 K
                replace hb71 := k159.heap hb71 n70
                replace K := K.trans' k159 (fun i hi e => (lk69 i e).elim (fun h => h.elim) (fun h => absurd hi (Nat.not_lt.2 h)))
                clear hb68
                refine WL.nil ?_
                refine WX.seqN ?_
                refine WC.region ?_
                refine WL.op (d := 116) (.pointer (some ⟨b20, 0, none⟩)) (k := ?_)
                refine WL.op (d := 117) (.pointer (some ⟨b57, 1, none⟩)) (k := ?_)
                refine WL.load (v := .int .i64 r49.n) (ld1 (T := 3) (i := 1) hb71) (k := ?_)
                refine WL.bin (d := 119) (v := .int .i64 (bits BinOp.and IntKind.i64 r49.n 3)) (bits_run (by decide)) (k := ?_)
                refine WL.rw (t := 119) (v := .int .i64 an152) (congrArg (Value.int .i64) ha153) (k := ?_)
                refine WL.callG (d := 120) (f := 15) (args := #[.pointer (some ⟨b20, 0, none⟩), .int .i64 an152]) (ql_fail (k := an152) hd157 (by omega)) (k := fun e_ w162 h_ => ?_)
                obtain ⟨rfl, S163, hd164, lk165, k166⟩ := h_
                refine ⟨_, rfl, ?_⟩
                have n167 : ¬ S163 b57 := fun h => (lk165 _ h).elim n160 (fun h2 => absurd (lt_of_heap hb71) (Nat.not_lt.2 h2))
                have lk168 := lk_step lk161 lk165 K
                replace hb71 := k166.heap hb71 n160
                replace K := K.trans' k166 (fun i hi e => (lk161 i e).elim (fun h => h.elim) (fun h => absurd hi (Nat.not_lt.2 h)))
                clear hd157
                refine WL.nil ?_
                refine WX.blockN ?_
                exact WX.joinW (j, st, GDisk.failD d an152, S163) ⟨K, hd164, lk168, n167, hb71, (by omega)⟩ ⟨(by kernel_rfl), (by kernel_rfl), (by kernel_rfl), (by kernel_rfl), (by kernel_rfl), (by kernel_rfl), (by kernel_rfl), (by kernel_rfl), (by kernel_rfl), (by kernel_rfl), (by kernel_rfl), (by kernel_rfl), (by kernel_rfl), (by kernel_rfl), (by kernel_rfl), (by kernel_rfl), (by kernel_rfl), (by kernel_rfl), (by kernel_rfl), (by kernel_rfl), (by kernel_rfl), (by kernel_rfl), (by kernel_rfl), (by kernel_rfl), (by kernel_rfl), (by kernel_rfl), (by kernel_rfl), (by kernel_rfl), (by kernel_rfl), (by kernel_rfl), (by kernel_rfl), (by kernel_rfl), (by kernel_rfl), (by kernel_rfl), (by kernel_rfl), (by kernel_rfl), (by kernel_rfl), (by kernel_rfl), (by kernel_rfl), (by kernel_rfl), (by kernel_rfl), (by kernel_rfl), (by kernel_rfl), (by kernel_rfl), (by kernel_rfl), trivial⟩
              · have ph151 := ne_of_beq_false h151
                refine WC.seq ?_
                refine WC.region ?_
                refine WL.op (d := 122) (.bool (an80 == 7)) (k := ?_)
                refine WL.op (d := 121) (.bool (an80 == 7)) (k := ?_)
                refine WL.nil ?_
                refine WX.seqN ?_
                refine WC.cond (b := an80 == 7) (ht := fun h169 => ?_) (hf := fun h169 => ?_)
                · have ph169 := eq_of_beq h169
                  refine WC.seq ?_
                  refine WC.region ?_
                  refine WL.op (d := 123) (.pointer (some ⟨b57, 5, none⟩)) (k := ?_)
                  refine WL.load (v := .bool r49.cr) (ld1 (T := 4) (i := 5) hb71) (k := ?_)
                  refine WL.nil ?_
                  refine WX.seqN ?_
                  refine WC.cond (b := r49.cr) (ht := fun h170 => ?_) (hf := fun h170 => ?_)
                  · refine WC.mixed (fun k => Si k) 9 (k := fun w171 k172 => ?_)
                    replace hb68 := hb68.adds k172
                    replace hb71 := k172.heap hb71 id
                    replace K := K.trans (k172.any _)
                    have KC := Keeps.refl (fun k => Si k) w171
                    have KCl : ∀ k, Si k → Si k ∨ w171.heap.size ≤ k := fun k h => .inl h
                    have bh173 := hb71
                    have Kb := K
                    refine WA.quiet 0 (d := 125) (.pointer (some ⟨b4, 0, none⟩)) KC (hi := rfl) (k := ?_)
                    refine WA.quiet 1 (d := 126) (.pointer (some ⟨b57, 6, none⟩)) KC (hi := rfl) (k := ?_)
                    refine WA.quietR 2 (d := 127) (.slice r49.A r49.fs.length r49.c) KC (exec_load (fun w_ k_ => ld1 (T := 33) (i := 6) (k_.heap bh173 n70))) (hi := rfl) (k := ?_)
                    refine WA.quiet 4 (d := 129) (.pointer (some ⟨b20, 0, none⟩)) KC (hi := rfl) (k := ?_)
                    refine WA.quiet 5 (d := 130) (.pointer (some ⟨b57, 6, none⟩)) KC (hi := rfl) (k := ?_)
                    refine WA.quietR 6 (d := 131) (.slice r49.A r49.fs.length r49.c) KC (exec_load (fun w_ k_ => ld1 (T := 33) (i := 6) (k_.heap bh173 n70))) (hi := rfl) (k := ?_)
                    refine WA.step 3 (hi := rfl) (k := ?_)
                    refine WL.callG (d := 128) (f := 16) (args := #[.pointer (some ⟨b4, 0, none⟩), .slice r49.A r49.fs.length r49.c]) (pl_crash (fs := r49.fs) (cf := r49.c) hb68 (hf54.adds K) (fun hx p hp hs => (lk69 _ hs).elim (fun h => h) (fun h => absurd (hf54.lt hx p hp) (Nat.not_lt.2 h))) (by omega)) (k := fun e_ w174 h_ => ?_)
                    obtain ⟨rfl, S175, hd176, lk177, k178⟩ := h_
                    refine ⟨_, rfl, ?_⟩
                    have n179 : ¬ S175 b57 := fun h => (lk177 _ h).elim n70 (fun h2 => absurd (lt_of_heap hb71) (Nat.not_lt.2 h2))
                    have lk180 := lk_step lk69 lk177 K
                    have kl181 := lk_step KCl lk177 KC
                    replace hb71 := k178.heap hb71 n70
                    replace K := K.trans' k178 (fun i hi e => (lk69 i e).elim (fun h => h.elim) (fun h => absurd hi (Nat.not_lt.2 h)))
                    replace KC := KC.trans' k178 (fun i hi e => (KCl i e).elim (fun e => e) (fun h => absurd hi (Nat.not_lt.2 h)))
                    clear hb68
                    refine WL.nil ?_
                    refine WX.nxt KC ?_
                    refine WA.step 7 (hi := rfl) (k := ?_)
                    refine WL.callG (d := 132) (f := 17) (args := #[.pointer (some ⟨b20, 0, none⟩), .slice r49.A r49.fs.length r49.c]) (ql_crash (fs := r49.fs) (cf := r49.c) hd176 (hf54.adds K) (fun hx p hp hs => (lk180 _ hs).elim (fun h => h) (fun h => absurd (hf54.lt hx p hp) (Nat.not_lt.2 h))) (by omega)) (k := fun e_ w182 h_ => ?_)
                    obtain ⟨rfl, S183, hd184, lk185, k186⟩ := h_
                    refine ⟨_, rfl, ?_⟩
                    have n187 : ¬ S183 b57 := fun h => (lk185 _ h).elim n179 (fun h2 => absurd (lt_of_heap hb71) (Nat.not_lt.2 h2))
                    have lk188 := lk_step lk180 lk185 K
                    have kl189 := lk_step kl181 lk185 KC
                    replace hb71 := k186.heap hb71 n179
                    replace K := K.trans' k186 (fun i hi e => (lk180 i e).elim (fun h => h.elim) (fun h => absurd hi (Nat.not_lt.2 h)))
                    replace KC := KC.trans' k186 (fun i hi e => (kl181 i e).elim (fun e => e) (fun h => absurd hi (Nat.not_lt.2 h)))
                    clear hd176
                    refine WL.nil ?_
                    refine WX.nxt KC ?_
                    refine WA.quiet 8 (d := 133) (.bool ((GDisk.crashE d r49.fs) == (GDisk.crashE d r49.fs))) KC (hi := rfl) (k := ?_)
                    refine WA.rw (t := 133) (v := .bool true) (congrArg Value.bool (beq_self_eq_true ((GDisk.crashE d r49.fs) : Int))) (k := ?_)
                    refine WA.step 9 (hi := rfl) (k := ?_)
                    refine WL.op (d := 13) (.bool true) (k := ?_)
                    refine WL.nil ?_
                    refine WX.nxtL ?_
                    refine WA.done (k := ?_)
                    clear KC
                    refine WX.blockN ?_
                    exact WX.joinW (j, st, GDisk.crashD d r49.fs, S183) ⟨K, hd184, lk188, n187, hb71, (by omega)⟩ ⟨(by kernel_rfl), (by kernel_rfl), (by kernel_rfl), (by kernel_rfl), (by kernel_rfl), (by kernel_rfl), (by kernel_rfl), (by kernel_rfl), (by kernel_rfl), (by kernel_rfl), (by kernel_rfl), (by kernel_rfl), (by kernel_rfl), (by kernel_rfl), (by kernel_rfl), (by kernel_rfl), (by kernel_rfl), (by kernel_rfl), (by kernel_rfl), (by kernel_rfl), (by kernel_rfl), (by kernel_rfl), (by kernel_rfl), (by kernel_rfl), (by kernel_rfl), (by kernel_rfl), (by kernel_rfl), (by kernel_rfl), (by kernel_rfl), (by kernel_rfl), (by kernel_rfl), (by kernel_rfl), (by kernel_rfl), (by kernel_rfl), (by kernel_rfl), (by kernel_rfl), (by kernel_rfl), (by kernel_rfl), (by kernel_rfl), (by kernel_rfl), (by kernel_rfl), (by kernel_rfl), (by kernel_rfl), (by kernel_rfl), (by kernel_rfl), trivial⟩
                  · refine WC.skip ?_
                    refine WX.blockN ?_
                    exact WX.joinW (j, st, d, Si) ⟨K, hb68, lk69, n70, hb71, (by omega)⟩ ⟨(by kernel_rfl), (by kernel_rfl), (by kernel_rfl), (by kernel_rfl), (by kernel_rfl), (by kernel_rfl), (by kernel_rfl), (by kernel_rfl), (by kernel_rfl), (by kernel_rfl), (by kernel_rfl), (by kernel_rfl), (by kernel_rfl), (by kernel_rfl), (by kernel_rfl), (by kernel_rfl), (by kernel_rfl), (by kernel_rfl), (by kernel_rfl), (by kernel_rfl), (by kernel_rfl), (by kernel_rfl), (by kernel_rfl), (by kernel_rfl), (by kernel_rfl), (by kernel_rfl), (by kernel_rfl), (by kernel_rfl), (by kernel_rfl), (by kernel_rfl), (by kernel_rfl), (by kernel_rfl), (by kernel_rfl), (by kernel_rfl), (by kernel_rfl), (by kernel_rfl), (by kernel_rfl), (by kernel_rfl), (by kernel_rfl), (by kernel_rfl), (by kernel_rfl), (by kernel_rfl), (by kernel_rfl), (by kernel_rfl), (by kernel_rfl), trivial⟩
                · have ph169 := ne_of_beq_false h169
                  refine WC.mixed (fun k => Si k) 11 (k := fun w190 k191 => ?_)
                  replace hb68 := hb68.adds k191
                  replace hb71 := k191.heap hb71 id
                  replace K := K.trans (k191.any _)
                  have KC := Keeps.refl (fun k => Si k) w190
                  have KCl : ∀ k, Si k → Si k ∨ w190.heap.size ≤ k := fun k h => .inl h
                  have bh192 := hb71
                  have Kb := K
                  refine WA.quiet 0 (d := 63) (.pointer (some ⟨b13, 0, none⟩)) KC (hi := rfl) (k := ?_)
                  refine WA.quiet 1 (d := 64) (.pointer (some ⟨b57, 2, none⟩)) KC (hi := rfl) (k := ?_)
                  refine WA.quietR 2 (d := 65) (.string ⟨(r49.t).toArray⟩) KC (exec_load (fun w_ k_ => ld1 (T := 9) (i := 2) (k_.heap bh192 n70))) (hi := rfl) (k := ?_)
                  refine WA.quiet 5 (d := 68) (.pointer (some ⟨b34, 0, none⟩)) KC (hi := rfl) (k := ?_)
                  refine WA.quiet 6 (d := 69) (.pointer (some ⟨b57, 2, none⟩)) KC (hi := rfl) (k := ?_)
                  refine WA.quietR 7 (d := 70) (.string ⟨(r49.t).toArray⟩) KC (exec_load (fun w_ k_ => ld1 (T := 9) (i := 2) (k_.heap bh192 n70))) (hi := rfl) (k := ?_)
                  refine WA.step 3 (hi := rfl) (k := ?_)
                  refine WL.callG (d := 66) (f := 19) (args := #[.string ⟨(r49.t).toArray⟩, .int .i64 50]) (l07short_t r49.t 50 (by omega) (by omega) w190) (k := fun e_ w194 h_ => ⟨.string ⟨(List.take 50 r49.t).toArray⟩, h_.1, ?_⟩)
                  have k195 := h_.2; clear h_
                  replace hb68 := hb68.adds k195
                  replace hb71 := k195.heap hb71 id
                  replace K := K.trans (k195.any _)
                  replace KC := KC.trans (k195.any _)
                  have tl193 : (List.take 50 r49.t).length ≤ 50 := by simp; omega
                  refine WL.nil ?_
                  refine WX.nxt KC ?_
                  refine WA.step 4 (hi := rfl) (k := ?_)
                  obtain ⟨X196, hX197⟩ : ∃ X, apF 1 (m : Int) st (List.take 50 r49.t) d = X := ⟨_, rfl⟩
                  refine WL.callG (d := 67) (f := 18) (args := #[.pointer (some ⟨b13, 0, none⟩), .string ⟨(List.take 50 r49.t).toArray⟩]) (pl_app (l := List.take 50 r49.t) hb68 (by omega) hX197) (k := fun e_ w198 h_ => ?_)
                  obtain ⟨rfl, S199, hd200, lk201, k202⟩ := h_
                  refine ⟨_, rfl, ?_⟩
                  have n203 : ¬ S199 b57 := fun h => (lk201 _ h).elim n70 (fun h2 => absurd (lt_of_heap hb71) (Nat.not_lt.2 h2))
                  have lk204 := lk_step lk69 lk201 K
                  have kl205 := lk_step KCl lk201 KC
                  replace hb71 := k202.heap hb71 n70
                  replace K := K.trans' k202 (fun i hi e => (lk69 i e).elim (fun h => h.elim) (fun h => absurd hi (Nat.not_lt.2 h)))
                  replace KC := KC.trans' k202 (fun i hi e => (KCl i e).elim (fun e => e) (fun h => absurd hi (Nat.not_lt.2 h)))
                  clear hb68
                  refine WL.nil ?_
                  refine WX.nxt KC ?_
                  refine WA.step 8 (hi := rfl) (k := ?_)
                  refine WL.callG (d := 71) (f := 19) (args := #[.string ⟨(r49.t).toArray⟩, .int .i64 50]) (l07short_t r49.t 50 (by omega) (by omega) w198) (k := fun e_ w207 h_ => ⟨.string ⟨(List.take 50 r49.t).toArray⟩, h_.1, ?_⟩)
                  have k208 := h_.2; clear h_
                  replace hd200 := hd200.adds k208
                  replace hb71 := k208.heap hb71 id
                  replace K := K.trans (k208.any _)
                  replace KC := KC.trans (k208.any _)
                  have tl206 : (List.take 50 r49.t).length ≤ 50 := by simp; omega
                  refine WL.nil ?_
                  refine WX.nxt KC ?_
                  refine WA.step 9 (hi := rfl) (k := ?_)
                  refine WL.callG (d := 72) (f := 20) (args := #[.pointer (some ⟨b34, 0, none⟩), .string ⟨(List.take 50 r49.t).toArray⟩]) (ql_app (l := List.take 50 r49.t) hd200 (by omega) hX197) (k := fun e_ w209 h_ => ?_)
                  obtain ⟨rfl, S210, hd211, lk212, k213⟩ := h_
                  refine ⟨_, rfl, ?_⟩
                  have n214 : ¬ S210 b57 := fun h => (lk212 _ h).elim n203 (fun h2 => absurd (lt_of_heap hb71) (Nat.not_lt.2 h2))
                  have lk215 := lk_step lk204 lk212 K
                  have kl216 := lk_step kl205 lk212 KC
                  replace hb71 := k213.heap hb71 n203
                  replace K := K.trans' k213 (fun i hi e => (lk204 i e).elim (fun h => h.elim) (fun h => absurd hi (Nat.not_lt.2 h)))
                  replace KC := KC.trans' k213 (fun i hi e => (kl205 i e).elim (fun e => e) (fun h => absurd hi (Nat.not_lt.2 h)))
                  clear hd200
                  refine WL.nil ?_
                  refine WX.nxt KC ?_
                  refine WA.quiet 10 (d := 73) (.bool ((ApX.bad X196) == (ApX.bad X196))) KC (hi := rfl) (k := ?_)
                  refine WA.rw (t := 73) (v := .bool true) (congrArg Value.bool (beq_self_eq_true ((ApX.bad X196) : Int))) (k := ?_)
                  refine WA.step 11 (hi := rfl) (k := ?_)
                  refine WL.op (d := 13) (.bool true) (k := ?_)
                  refine WL.nil ?_
                  refine WX.nxtL ?_
                  refine WA.done (k := ?_)
                  clear KC
                  refine WX.blockN ?_
                  exact WX.joinW (j + 1, ApX.st X196, ApX.d X196, S210) ⟨K, hd211, lk215, n214, hb71, (by omega)⟩ ⟨(by kernel_rfl), (by kernel_rfl), (by kernel_rfl), (by kernel_rfl), (by kernel_rfl), (by kernel_rfl), (by kernel_rfl), (by kernel_rfl), (by kernel_rfl), (by kernel_rfl), (by kernel_rfl), (by kernel_rfl), (by kernel_rfl), (by kernel_rfl), (by kernel_rfl), (by kernel_rfl), (by kernel_rfl), (by kernel_rfl), (by kernel_rfl), (by kernel_rfl), (by kernel_rfl), (by kernel_rfl), (by kernel_rfl), (by kernel_rfl), (by kernel_rfl), (by kernel_rfl), (by kernel_rfl), (by kernel_rfl), (by kernel_rfl), (by kernel_rfl), (by kernel_rfl), (by kernel_rfl), (by kernel_rfl), (by kernel_rfl), (by kernel_rfl), (by kernel_rfl), (by kernel_rfl), (by kernel_rfl), (by kernel_rfl), (by kernel_rfl), (by kernel_rfl), (by kernel_rfl), (by kernel_rfl), (by kernel_rfl), (by kernel_rfl), trivial⟩
      · refine WC.seq ?_
        refine WC.region ?_
        refine WL.op (d := 54) (.pointer (some ⟨b57, 4, none⟩)) (k := ?_)
        refine WL.load (v := .bool r49.nr) (ld1 (T := 4) (i := 4) hb65) (k := ?_)
        refine WL.nil ?_
        refine WX.seqN ?_
        refine WC.cond (b := r49.nr) (ht := fun h217 => ?_) (hf := fun h217 => ?_)
        · refine WC.region ?_
          refine WL.op (d := 56) (.pointer (some ⟨b57, 3, none⟩)) (k := ?_)
          refine WL.load (v := .int .u64 ((r49.e : Nat) : Int)) (ld1 (T := 32) (i := 3) hb65) (k := ?_)
          refine WL.bin (d := 58) (v := .int .u64 (bits BinOp.and IntKind.u64 ((r49.e : Nat) : Int) 3)) (bits_run (by decide)) (k := ?_)
          obtain ⟨q218, hq219, hl220⟩ := andU3 (e := r49.e)
          refine WL.rw (t := 58) (v := .int .u64 ((q218 : Nat) : Int)) (congrArg (Value.int .u64) hq219) (k := ?_)
          refine WL.op (d := 59) (.pointer (some ⟨b57, 3, none⟩)) (k := ?_)
          refine WL.store (v := .int .u64 ((q218 : Nat) : Int)) (i := 3) (cs' := #[.int .i64 r49.k, .int .i64 r49.n, .string ⟨(r49.t).toArray⟩, .int .u64 ((q218 : Nat) : Int), .bool r49.nr, .bool r49.cr, .slice r49.A r49.fs.length r49.c]) hb65 (k := fun w221 hb222 k223 => ?_)
          replace hb43 := hb43.keeps k223 (fun i hi e => n63 (e ▸ hi))
          replace K := K.trans' k223 (fun i hi e => absurd (e ▸ hi) (Nat.not_lt.2 z62))
          clear hb65
          refine WL.nil ?_
          exact WX.joinW (q218) ⟨K, hb43, lk44, n63, hb222, (by omega)⟩ ⟨(by kernel_rfl), (by kernel_rfl), (by kernel_rfl), (by kernel_rfl), (by kernel_rfl), (by kernel_rfl), (by kernel_rfl), (by kernel_rfl), (by kernel_rfl), (by kernel_rfl), (by kernel_rfl), (by kernel_rfl), (by kernel_rfl), (by kernel_rfl), (by kernel_rfl), (by kernel_rfl), (by kernel_rfl), (by kernel_rfl), (by kernel_rfl), (by kernel_rfl), (by kernel_rfl), (by kernel_rfl), (by kernel_rfl), (by kernel_rfl), (by kernel_rfl), (by kernel_rfl), (by kernel_rfl), (by kernel_rfl), (by kernel_rfl), (by kernel_rfl), (by kernel_rfl), (by kernel_rfl), (by kernel_rfl), (by kernel_rfl), (by kernel_rfl), (by kernel_rfl), (by kernel_rfl), (by kernel_rfl), (by kernel_rfl), (by kernel_rfl), (by kernel_rfl), (by kernel_rfl), (by kernel_rfl), (by kernel_rfl), trivial⟩
        · refine WC.skip ?_
          exact WX.joinW (r49.e) ⟨K, hb43, lk44, n63, hb65, (by omega)⟩ ⟨(by kernel_rfl), (by kernel_rfl), (by kernel_rfl), (by kernel_rfl), (by kernel_rfl), (by kernel_rfl), (by kernel_rfl), (by kernel_rfl), (by kernel_rfl), (by kernel_rfl), (by kernel_rfl), (by kernel_rfl), (by kernel_rfl), (by kernel_rfl), (by kernel_rfl), (by kernel_rfl), (by kernel_rfl), (by kernel_rfl), (by kernel_rfl), (by kernel_rfl), (by kernel_rfl), (by kernel_rfl), (by kernel_rfl), (by kernel_rfl), (by kernel_rfl), (by kernel_rfl), (by kernel_rfl), (by kernel_rfl), (by kernel_rfl), (by kernel_rfl), (by kernel_rfl), (by kernel_rfl), (by kernel_rfl), (by kernel_rfl), (by kernel_rfl), (by kernel_rfl), (by kernel_rfl), (by kernel_rfl), (by kernel_rfl), (by kernel_rfl), (by kernel_rfl), (by kernel_rfl), (by kernel_rfl), (by kernel_rfl), trivial⟩
    · have ph46 := of_decide_eq_false h46
      refine WC.exit ?_
      refine WX.seqE ?_
      refine WX.seqE ?_
      refine WX.blockE ?_
      refine WX.seqN ?_
      refine WC.seq ?_
      refine WC.region ?_
      refine WL.op (d := 169) (.bool true) (k := ?_)
      refine WL.op (d := 4) (.bool true) (k := ?_)
      refine WL.nil ?_
      refine WX.seqN ?_
      refine WC.ret ?_
      refine WX.ret (rs := [.tmp 4]) [.bool true] (.bool true) ⟨(by kernel_rfl), trivial⟩ (k := ?_)
      exact ⟨rfl, K⟩
  · have ph45 := of_decide_eq_false h45
    refine WL.rw (t := 44) (v := .bool false) (congrArg Value.bool h45) (k := ?_)
    refine WL.skip (d := 45) (k := ?_)
    refine WL.skip (d := 46) (k := ?_)
    refine WL.op (d := 47) (.bool false) (k := ?_)
    refine WL.nil ?_
    refine WX.seqN ?_
    refine WC.condF (k := ?_)
    refine WC.exit ?_
    refine WX.seqE ?_
    refine WX.seqE ?_
    refine WX.blockE ?_
    refine WX.seqN ?_
    refine WC.seq ?_
    refine WC.region ?_
    refine WL.op (d := 169) (.bool true) (k := ?_)
    refine WL.op (d := 4) (.bool true) (k := ?_)
    refine WL.nil ?_
    refine WX.seqN ?_
    refine WC.ret ?_
    refine WX.ret (rs := [.tmp 4]) [.bool true] (.bool true) ⟨(by kernel_rfl), trivial⟩ (k := ?_)
    exact ⟨rfl, K⟩
end Go.Proofs.YtnkkbeafcfjkmaaGreatDoor
namespace Go.Proofs.YtnkkbeafcfjkmaaGreatDoor
open Go.RowKit
set_option linter.unusedVariables false
theorem isStr {s : ByteArray} (h : IsStr [.string s]) : ∃ l : List UInt8, s = ⟨l.toArray⟩ ∧ l.length ≤ 9223372036854775807 := by
  obtain ⟨n, h1, h2⟩ := h
  simp only [List.cons.injEq, Value.string.injEq, and_true] at h1
  subst h1
  obtain ⟨⟨l⟩⟩ := s
  exact ⟨l, rfl, by simpa [maxLen, ByteArray.size] using h2⟩
end Go.Proofs.YtnkkbeafcfjkmaaGreatDoor
namespace Go.Proofs.YtnkkbeafcfjkmaaGreatDoor
open Go.RowKit
set_option linter.unusedVariables false
theorem isSlAtP {α : Type} {P : α → Prop} {cl : α → List Value} {m : Nat} {E : TypeId} {El : World → List Value → Prop} {w : World} (hel : ∀ es, El w es → ∃ x, es = cl x ∧ P x) (hl : ∀ x, (cl x).length = m) (hm : 0 < m) {A : Option Addr} {n c : Nat} (h : IsSl m El w [.slice A n c]) :
    ∃ xs : List α, n = xs.length ∧ SlAt cl m E A xs w ∧ xs.length ≤ c ∧ c ≤ maxLen ∧ ∀ x ∈ xs, P x := by
  rcases h with h | ⟨a, len, cap, h, hlc, hcm, hi⟩
  · simp only [List.cons.injEq, Value.slice.injEq, and_true] at h
    obtain ⟨rfl, rfl, rfl⟩ := h
    exact ⟨[], rfl, .inl rfl, Nat.le_refl _, Nat.zero_le _, by simp⟩
  · simp only [List.cons.injEq, Value.slice.injEq, and_true] at h
    obtain ⟨rfl, rfl, rfl⟩ := h
    by_cases h0 : n = 0
    · subst h0; exact ⟨[], rfl, .inl rfl, by simp, hcm, by simp⟩
    have hex : ∀ i : Fin n, ∃ x : α, (∀ j, j < m → w.cell? ((a.add (i.1 * m)).add j) = (cl x)[j]?) ∧ P x := fun i => by
      obtain ⟨es, h1, h2, h3⟩ := hi i.1 i.2
      obtain ⟨x, rfl, hp⟩ := hel es h3
      exact ⟨x, h2, hp⟩
    obtain ⟨f, hex2⟩ := Classical.axiomOfChoice hex
    have hex' := fun i => (hex2 i).1
    refine ⟨List.ofFn f, by simp, .inr ?_, by simpa using hlc, hcm, fun x hx => by obtain ⟨i, rfl⟩ := List.mem_ofFn.1 hx; exact (hex2 i).2⟩
    have hc0 := hex' ⟨0, by omega⟩ 0 hm
    have hs : ∃ v, (cl (f ⟨0, by omega⟩))[0]? = some v := ⟨_, List.getElem?_eq_getElem (by rw [hl]; exact hm)⟩
    obtain ⟨v, hv⟩ := hs
    rw [hv] at hc0
    simp only [Nat.zero_mul, addr_add0] at hc0
    obtain ⟨b, o, sp⟩ := a
    have hsp : sp = none := World.cell?_spot hc0
    subst hsp
    have hc : ∀ (i : Fin n) j, j < m → w.cell? ⟨b, o + i.1 * m + j, none⟩ = (cl (f i))[j]? := fun i j hj => by
      have := hex' i j hj
      rwa [addr_add, addr_add] at this
    unfold World.cell? at hc hc0
    cases hb : w.heap[b]? with
    | none => simp [hb] at hc0
    | some ob =>
      cases ob with
      | cells cs E' fz =>
        simp only [hb, Option.isSome_none, Bool.false_eq_true, if_false] at hc
        refine ⟨b, o, cs, E', fz, rfl, hb, ?_, fun i r hr => ?_⟩
        · rw [List.length_ofFn]
          have h1 := hc ⟨n - 1, by omega⟩ (m - 1) (by omega)
          have h2 : (cl (f ⟨n - 1, by omega⟩))[m - 1]? = some _ := List.getElem?_eq_getElem (by rw [hl]; omega)
          rw [h2] at h1
          have h3 := (Array.getElem?_eq_some_iff.1 h1).1
          have h4 : (n - 1) * m + m = n * m := by
            have : n = n - 1 + 1 := by omega
            conv => rhs; rw [this, Nat.add_mul, Nat.one_mul]
          simp only at h3
          omega
        · have hlt : i < n := by have := (List.getElem?_eq_some_iff.1 hr).1; simpa using this
          rw [List.getElem?_ofFn, dif_pos hlt] at hr
          cases hr
          refine List.ext_getElem? fun j => ?_
          by_cases hj : j < m
          · rw [List.getElem?_take_of_lt hj, List.getElem?_drop, ← hc ⟨i, hlt⟩ j hj]; simp
          · rw [List.getElem?_eq_none (by rw [List.length_take]; omega), List.getElem?_eq_none (by rw [hl]; omega)]
      | _ => simp [hb] at hc0
end Go.Proofs.YtnkkbeafcfjkmaaGreatDoor
