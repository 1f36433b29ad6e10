/- Rl1, Jn0, Duo, Pl0, Pl1, WlB, Wl6: one behind the other. -/
import Derived.Test.YtnkkbeafcfjkmaaGreatDoorPk4
namespace Go.Proofs.YtnkkbeafcfjkmaaGreatDoor
open Go.RowKit
set_option linter.unusedVariables false
set_option linter.unusedSimpArgs false
theorem readT_len {d : GDisk} (h : d.ok) (a : Int) : (d.readT a).length ≤ 64 := by
  unfold GDisk.readT
  split
  · next q =>
    have := GDisk.overs_len (a := a) (o := d.opn) (s := d.secs.getD a.toNat []) (fun x hx => (h.2.1 x hx).1) (by
      have hlt : a.toNat < d.secs.length := by have := q.1.1; have := q.1.2; omega
      rw [List.getD_eq_getElem?_getD, List.getElem?_eq_getElem hlt]
      exact h.1 _ (List.getElem_mem _))
    exact Nat.le_of_eq this
  · simp
set_option maxRecDepth 100000 in
set_option maxHeartbeats 4000000 in
theorem rlStart_c {S : Nat → Prop} {b dk ep ln : Nat} {op : Bool} {d : GDisk} {at_ n : Int} {w : World} {e : Nat} (hb : w.heap[b]? = some (.cells #[.pointer (some ⟨dk, 0, none⟩), .int .i64 at_, .int .i64 n, .bool op, .int .u64 (ep : Int), .int .i64 (ln : Int)] 63 (0, 0))) (hd : RefAt S dk d w) (hnb : ¬ S b) (he : ¬ e = 0) : Calls Tryz.prog 13 #[.pointer (some ⟨b, 0, none⟩), .int .u64 (e : Int)] w fun e_ w' => e_ = .returned (.int .i64 0) ∧ w'.heap[b]? = some (.cells #[.pointer (some ⟨dk, 0, none⟩), .int .i64 at_, .int .i64 n, .bool true, .int .u64 (e : Int), .int .i64 ((0 : Nat) : Int)] 63 (0, 0)) ∧ RefAt S dk d w' ∧ Keeps (fun k => k = b ∨ S k) w w' := by
  have K : Keeps (fun k => k = b ∨ S k) w w := Keeps.refl _ w
  have lk0 : ∀ k, S k → S k ∨ w.heap.size ≤ k := fun k h => .inl h
  have h1 : (((e : Nat) : Int) == 0) = false := beq_eq_false_iff_ne.2 (by omega)
  have ph1 := ne_of_beq_false h1
  refine Calls.start Tryz.func13 rfl (by as_aux_lemma => kernel_rfl) ?_
  refine WC.seq ?_
  refine WC.region ?_
  refine WL.op (d := 4) (.int .i64 0) (by as_aux_lemma => kernel_rfl) (by as_aux_lemma => kernel_rfl) (by as_aux_lemma => kernel_rfl) rfl (by as_aux_lemma => kernel_rfl) (k := ?_)
  refine WL.nil ?_
  refine WX.seqN ?_
  refine WC.seq ?_
  refine WC.seq ?_
  refine WC.region ?_
  refine WL.op (d := 5) (.int .u64 ((e : Nat) : Int)) (by as_aux_lemma => kernel_rfl) (by as_aux_lemma => kernel_rfl) (by as_aux_lemma => kernel_rfl) rfl (by as_aux_lemma => kernel_rfl) (k := ?_)
  refine WL.op (d := 6) (.bool (((e : Nat) : Int) == 0)) (by as_aux_lemma => kernel_rfl) (by as_aux_lemma => kernel_rfl) (by as_aux_lemma => kernel_rfl) rfl (by as_aux_lemma => kernel_rfl) (k := ?_)
  refine WL.nil ?_
  refine WX.seqN ?_
  refine WC.rw (t := 6) (v := .bool false) (congrArg Value.bool h1) (by as_aux_lemma => kernel_rfl) (k := ?_)
  refine WC.condF (by as_aux_lemma => kernel_rfl) (k := ?_)
  refine WC.skip ?_
  refine WX.seqN ?_
  refine WC.seq ?_
  refine WC.region ?_
  refine WL.op (d := 7) (.pointer (some ⟨b, 0, none⟩)) (by as_aux_lemma => kernel_rfl) (by as_aux_lemma => kernel_rfl) (by as_aux_lemma => kernel_rfl) rfl (by as_aux_lemma => kernel_rfl) (k := ?_)
  refine WL.op (d := 8) (.pointer (some ⟨b, 0, none⟩)) (by as_aux_lemma => kernel_rfl) (by as_aux_lemma => kernel_rfl) (by as_aux_lemma => kernel_rfl) rfl (by as_aux_lemma => kernel_rfl) (k := ?_)
  refine WL.op (d := 9) (.pointer (some ⟨b, 3, none⟩)) (by as_aux_lemma => kernel_rfl) (by as_aux_lemma => kernel_rfl) (by as_aux_lemma => kernel_rfl) rfl (by as_aux_lemma => kernel_rfl) (k := ?_)
  refine WL.store (v := .bool true) (i := 3) (cs' := #[.pointer (some ⟨dk, 0, none⟩), .int .i64 at_, .int .i64 n, .bool true, .int .u64 ((ep : Nat) : Int), .int .i64 (ln : Int)]) hb (by as_aux_lemma => kernel_rfl) (by as_aux_lemma => kernel_rfl) (by as_aux_lemma => kernel_rfl) (by as_aux_lemma => kernel_rfl) (by as_aux_lemma => kernel_rfl) (by as_aux_lemma => kernel_rfl) (by as_aux_lemma => kernel_rfl) (k := fun w2 hb3 k4 => ?_)
  replace hd := hd.keeps k4 (fun i hi e => hnb (e ▸ hi))
  replace K := K.trans' k4 (fun i hi e => .inl e)
  clear hb
  refine WL.nil ?_
  refine WX.seqN ?_
  refine WC.seq ?_
  refine WC.region ?_
  refine WL.op (d := 10) (.pointer (some ⟨b, 0, none⟩)) (by as_aux_lemma => kernel_rfl) (by as_aux_lemma => kernel_rfl) (by as_aux_lemma => kernel_rfl) rfl (by as_aux_lemma => kernel_rfl) (k := ?_)
  refine WL.op (d := 11) (.int .u64 ((e : Nat) : Int)) (by as_aux_lemma => kernel_rfl) (by as_aux_lemma => kernel_rfl) (by as_aux_lemma => kernel_rfl) rfl (by as_aux_lemma => kernel_rfl) (k := ?_)
  refine WL.op (d := 12) (.pointer (some ⟨b, 0, none⟩)) (by as_aux_lemma => kernel_rfl) (by as_aux_lemma => kernel_rfl) (by as_aux_lemma => kernel_rfl) rfl (by as_aux_lemma => kernel_rfl) (k := ?_)
  refine WL.op (d := 13) (.pointer (some ⟨b, 4, none⟩)) (by as_aux_lemma => kernel_rfl) (by as_aux_lemma => kernel_rfl) (by as_aux_lemma => kernel_rfl) rfl (by as_aux_lemma => kernel_rfl) (k := ?_)
  refine WL.store (v := .int .u64 ((e : Nat) : Int)) (i := 4) (cs' := #[.pointer (some ⟨dk, 0, none⟩), .int .i64 at_, .int .i64 n, .bool true, .int .u64 ((e : Nat) : Int), .int .i64 (ln : Int)]) hb3 (by as_aux_lemma => kernel_rfl) (by as_aux_lemma => kernel_rfl) (by as_aux_lemma => kernel_rfl) (by as_aux_lemma => kernel_rfl) (by as_aux_lemma => kernel_rfl) (by as_aux_lemma => kernel_rfl) (by as_aux_lemma => kernel_rfl) (k := fun w5 hb6 k7 => ?_)
  replace hd := hd.keeps k7 (fun i hi e => hnb (e ▸ hi))
  replace K := K.trans' k7 (fun i hi e => .inl e)
  clear hb3
  refine WL.nil ?_
  refine WX.seqN ?_
  refine WC.seq ?_
  refine WC.region ?_
  refine WL.op (d := 14) (.pointer (some ⟨b, 0, none⟩)) (by as_aux_lemma => kernel_rfl) (by as_aux_lemma => kernel_rfl) (by as_aux_lemma => kernel_rfl) rfl (by as_aux_lemma => kernel_rfl) (k := ?_)
  refine WL.op (d := 15) (.pointer (some ⟨b, 0, none⟩)) (by as_aux_lemma => kernel_rfl) (by as_aux_lemma => kernel_rfl) (by as_aux_lemma => kernel_rfl) rfl (by as_aux_lemma => kernel_rfl) (k := ?_)
  refine WL.op (d := 16) (.pointer (some ⟨b, 5, none⟩)) (by as_aux_lemma => kernel_rfl) (by as_aux_lemma => kernel_rfl) (by as_aux_lemma => kernel_rfl) rfl (by as_aux_lemma => kernel_rfl) (k := ?_)
  refine WL.store (v := .int .i64 0) (i := 5) (cs' := #[.pointer (some ⟨dk, 0, none⟩), .int .i64 at_, .int .i64 n, .bool true, .int .u64 ((e : Nat) : Int), .int .i64 0]) hb6 (by as_aux_lemma => kernel_rfl) (by as_aux_lemma => kernel_rfl) (by as_aux_lemma => kernel_rfl) (by as_aux_lemma => kernel_rfl) (by as_aux_lemma => kernel_rfl) (by as_aux_lemma => kernel_rfl) (by as_aux_lemma => kernel_rfl) (k := fun w8 hb9 k10 => ?_)
  replace hd := hd.keeps k10 (fun i hi e => hnb (e ▸ hi))
  replace K := K.trans' k10 (fun i hi e => .inl e)
  clear hb6
  refine WL.nil ?_
  refine WX.seqN ?_
  refine WC.seq ?_
  refine WC.region ?_
  refine WL.op (d := 4) (.int .i64 0) (by as_aux_lemma => kernel_rfl) (by as_aux_lemma => kernel_rfl) (by as_aux_lemma => kernel_rfl) rfl (by as_aux_lemma => kernel_rfl) (k := ?_)
  refine WL.nil ?_
  refine WX.seqN ?_
  refine WC.ret ?_
  refine WX.ret (rs := [.tmp 4]) [.int .i64 0] (.int .i64 0) ⟨(by as_aux_lemma => kernel_rfl), trivial⟩ rfl rfl (k := ?_)
  exact ⟨rfl, hb9, hd, K⟩
set_option maxRecDepth 100000 in
set_option maxHeartbeats 4000000 in
theorem rlStart_zero {b : Nat} {w : World} : Calls Tryz.prog 13 #[.pointer (some ⟨b, 0, none⟩), .int .u64 0] w fun e_ w' => e_ = .returned (.int .i64 1) ∧ Adds w w' := by
  have K : Keeps (fun _ => False) w w := Keeps.refl _ w
  refine Calls.start Tryz.func13 rfl (by as_aux_lemma => kernel_rfl) ?_
  refine WC.seq ?_
  refine WC.region ?_
  refine WL.op (d := 4) (.int .i64 0) (by as_aux_lemma => kernel_rfl) (by as_aux_lemma => kernel_rfl) (by as_aux_lemma => kernel_rfl) rfl (by as_aux_lemma => kernel_rfl) (k := ?_)
  refine WL.nil ?_
  refine WX.seqN ?_
  refine WC.seq ?_
  refine WC.seq ?_
  refine WC.region ?_
  refine WL.op (d := 5) (.int .u64 0) (by as_aux_lemma => kernel_rfl) (by as_aux_lemma => kernel_rfl) (by as_aux_lemma => kernel_rfl) rfl (by as_aux_lemma => kernel_rfl) (k := ?_)
  refine WL.op (d := 6) (.bool true) (by as_aux_lemma => kernel_rfl) (by as_aux_lemma => kernel_rfl) (by as_aux_lemma => kernel_rfl) rfl (by as_aux_lemma => kernel_rfl) (k := ?_)
  refine WL.nil ?_
  refine WX.seqN ?_
  refine WC.condT (by as_aux_lemma => kernel_rfl) (k := ?_)
  refine WC.seq ?_
  refine WC.region ?_
  refine WL.op (d := 4) (.int .i64 1) (by as_aux_lemma => kernel_rfl) (by as_aux_lemma => kernel_rfl) (by as_aux_lemma => kernel_rfl) rfl (by as_aux_lemma => kernel_rfl) (k := ?_)
  refine WL.nil ?_
  refine WX.seqN ?_
  refine WC.ret ?_
  refine WX.seqR ?_
  refine WX.ret (rs := [.tmp 4]) [.int .i64 1] (.int .i64 1) ⟨(by as_aux_lemma => kernel_rfl), trivial⟩ rfl rfl (k := ?_)
  exact ⟨rfl, K⟩
set_option maxRecDepth 100000 in
set_option maxHeartbeats 4000000 in
theorem rlLeft_true {b dk ep ln : Nat} {at_ n : Int} {w : World} (hb : w.heap[b]? = some (.cells #[.pointer (some ⟨dk, 0, none⟩), .int .i64 at_, .int .i64 n, .bool true, .int .u64 (ep : Int), .int .i64 ln] 63 (0, 0))) (hn : 0 ≤ n ∧ n ≤ 1024) (hl : ln ≤ 1024) : Calls Tryz.prog 22 #[.pointer (some ⟨b, 0, none⟩)] w fun e_ w' => e_ = .returned (.int .i64 (n - (ln : Int))) ∧ Adds w w' := by
  have K : Keeps (fun _ => False) w w := Keeps.refl _ w
  refine Calls.start Tryz.func22 rfl (by as_aux_lemma => kernel_rfl) ?_
  refine WC.seq ?_
  refine WC.region ?_
  refine WL.op (d := 2) (.int .i64 0) (by as_aux_lemma => kernel_rfl) (by as_aux_lemma => kernel_rfl) (by as_aux_lemma => kernel_rfl) rfl (by as_aux_lemma => kernel_rfl) (k := ?_)
  refine WL.nil ?_
  refine WX.seqN ?_
  refine WC.seq ?_
  refine WC.seq ?_
  refine WC.region ?_
  refine WL.op (d := 3) (.pointer (some ⟨b, 0, none⟩)) (by as_aux_lemma => kernel_rfl) (by as_aux_lemma => kernel_rfl) (by as_aux_lemma => kernel_rfl) rfl (by as_aux_lemma => kernel_rfl) (k := ?_)
  refine WL.op (d := 4) (.pointer (some ⟨b, 0, none⟩)) (by as_aux_lemma => kernel_rfl) (by as_aux_lemma => kernel_rfl) (by as_aux_lemma => kernel_rfl) rfl (by as_aux_lemma => kernel_rfl) (k := ?_)
  refine WL.op (d := 5) (.pointer (some ⟨b, 3, none⟩)) (by as_aux_lemma => kernel_rfl) (by as_aux_lemma => kernel_rfl) (by as_aux_lemma => kernel_rfl) rfl (by as_aux_lemma => kernel_rfl) (k := ?_)
  refine WL.load (v := .bool true) (ld1 (T := 4) (i := 3) hb (by as_aux_lemma => kernel_rfl) (by as_aux_lemma => kernel_rfl)) (by as_aux_lemma => kernel_rfl) (by as_aux_lemma => kernel_rfl) (by as_aux_lemma => kernel_rfl) (k := ?_)
  refine WL.op (d := 7) (.bool false) (by as_aux_lemma => kernel_rfl) (by as_aux_lemma => kernel_rfl) (by as_aux_lemma => kernel_rfl) rfl (by as_aux_lemma => kernel_rfl) (k := ?_)
  refine WL.nil ?_
  refine WX.seqN ?_
  refine WC.condF (by as_aux_lemma => kernel_rfl) (k := ?_)
  refine WC.skip ?_
  refine WX.seqN ?_
  refine WC.seq ?_
  refine WC.quiet (by kernel_rfl) (by as_aux_lemma => kernel_rfl) (k := ?_)
  refine WQ.op (d := 8) (.pointer (some ⟨b, 0, none⟩)) (by as_aux_lemma => kernel_rfl) (by as_aux_lemma => kernel_rfl) (fun _ _ => by kernel_rfl) rfl (by as_aux_lemma => kernel_rfl) (k := ?_)
  refine WQ.op (d := 9) (.pointer (some ⟨b, 0, none⟩)) (by as_aux_lemma => kernel_rfl) (by as_aux_lemma => kernel_rfl) (fun _ _ => by kernel_rfl) rfl (by as_aux_lemma => kernel_rfl) (k := ?_)
  refine WQ.op (d := 10) (.pointer (some ⟨b, 2, none⟩)) (by as_aux_lemma => kernel_rfl) (by as_aux_lemma => kernel_rfl) (fun _ _ => by kernel_rfl) rfl (by as_aux_lemma => kernel_rfl) (k := ?_)
  refine WQ.load (v := .int .i64 n) (fun w_ k_ => ld1 (T := 3) (i := 2) (k_.heap hb id) (by as_aux_lemma => kernel_rfl) (by as_aux_lemma => kernel_rfl)) (by as_aux_lemma => kernel_rfl) (by as_aux_lemma => kernel_rfl) (by as_aux_lemma => kernel_rfl) (k := ?_)
  refine WQ.op (d := 12) (.pointer (some ⟨b, 0, none⟩)) (by as_aux_lemma => kernel_rfl) (by as_aux_lemma => kernel_rfl) (fun _ _ => by kernel_rfl) rfl (by as_aux_lemma => kernel_rfl) (k := ?_)
  refine WQ.op (d := 13) (.pointer (some ⟨b, 0, none⟩)) (by as_aux_lemma => kernel_rfl) (by as_aux_lemma => kernel_rfl) (fun _ _ => by kernel_rfl) rfl (by as_aux_lemma => kernel_rfl) (k := ?_)
  refine WQ.op (d := 14) (.pointer (some ⟨b, 5, none⟩)) (by as_aux_lemma => kernel_rfl) (by as_aux_lemma => kernel_rfl) (fun _ _ => by kernel_rfl) rfl (by as_aux_lemma => kernel_rfl) (k := ?_)
  refine WQ.load (v := .int .i64 (ln : Int)) (fun w_ k_ => ld1 (T := 3) (i := 5) (k_.heap hb id) (by as_aux_lemma => kernel_rfl) (by as_aux_lemma => kernel_rfl)) (by as_aux_lemma => kernel_rfl) (by as_aux_lemma => kernel_rfl) (by as_aux_lemma => kernel_rfl) (k := ?_)
  refine WQ.opE (d := 16) (.int .i64 (IntKind.i64.wrap (n - (ln : Int)))) (v := .int .i64 (n - (ln : Int))) (congrArg (Value.int .i64) (IntWalk.i64_in _ (by omega))) (by as_aux_lemma => kernel_rfl) (by as_aux_lemma => kernel_rfl) (fun _ _ => by kernel_rfl) rfl (by as_aux_lemma => kernel_rfl) (k := ?_)
  refine WQ.op (d := 2) (.int .i64 (n - (ln : Int))) (by as_aux_lemma => kernel_rfl) (by as_aux_lemma => kernel_rfl) (fun _ _ => by kernel_rfl) rfl (by as_aux_lemma => kernel_rfl) (k := ?_)
  refine WQ.nilX (fun w1 k2 => ?_)
  replace hb := k2.heap hb id
  replace K := K.trans (k2.any _)
  refine WX.seqN ?_
  refine WC.ret ?_
  refine WX.ret (rs := [.tmp 2]) [.int .i64 (n - (ln : Int))] (.int .i64 (n - (ln : Int))) ⟨(by as_aux_lemma => kernel_rfl), trivial⟩ rfl rfl (k := ?_)
  exact ⟨rfl, K⟩
set_option maxRecDepth 100000 in
set_option maxHeartbeats 4000000 in
theorem rlLeft_false {b dk ep ln : Nat} {at_ n : Int} {w : World} (hb : w.heap[b]? = some (.cells #[.pointer (some ⟨dk, 0, none⟩), .int .i64 at_, .int .i64 n, .bool false, .int .u64 (ep : Int), .int .i64 ln] 63 (0, 0))) (hn : 0 ≤ n ∧ n ≤ 1024) (hl : ln ≤ 1024) : Calls Tryz.prog 22 #[.pointer (some ⟨b, 0, none⟩)] w fun e_ w' => e_ = .returned (.int .i64 (0)) ∧ Adds w w' := by
  have K : Keeps (fun _ => False) w w := Keeps.refl _ w
  refine Calls.start Tryz.func22 rfl (by as_aux_lemma => kernel_rfl) ?_
  refine WC.seq ?_
  refine WC.region ?_
  refine WL.op (d := 2) (.int .i64 0) (by as_aux_lemma => kernel_rfl) (by as_aux_lemma => kernel_rfl) (by as_aux_lemma => kernel_rfl) rfl (by as_aux_lemma => kernel_rfl) (k := ?_)
  refine WL.nil ?_
  refine WX.seqN ?_
  refine WC.seq ?_
  refine WC.seq ?_
  refine WC.region ?_
  refine WL.op (d := 3) (.pointer (some ⟨b, 0, none⟩)) (by as_aux_lemma => kernel_rfl) (by as_aux_lemma => kernel_rfl) (by as_aux_lemma => kernel_rfl) rfl (by as_aux_lemma => kernel_rfl) (k := ?_)
  refine WL.op (d := 4) (.pointer (some ⟨b, 0, none⟩)) (by as_aux_lemma => kernel_rfl) (by as_aux_lemma => kernel_rfl) (by as_aux_lemma => kernel_rfl) rfl (by as_aux_lemma => kernel_rfl) (k := ?_)
  refine WL.op (d := 5) (.pointer (some ⟨b, 3, none⟩)) (by as_aux_lemma => kernel_rfl) (by as_aux_lemma => kernel_rfl) (by as_aux_lemma => kernel_rfl) rfl (by as_aux_lemma => kernel_rfl) (k := ?_)
  refine WL.load (v := .bool false) (ld1 (T := 4) (i := 3) hb (by as_aux_lemma => kernel_rfl) (by as_aux_lemma => kernel_rfl)) (by as_aux_lemma => kernel_rfl) (by as_aux_lemma => kernel_rfl) (by as_aux_lemma => kernel_rfl) (k := ?_)
  refine WL.op (d := 7) (.bool true) (by as_aux_lemma => kernel_rfl) (by as_aux_lemma => kernel_rfl) (by as_aux_lemma => kernel_rfl) rfl (by as_aux_lemma => kernel_rfl) (k := ?_)
  refine WL.nil ?_
  refine WX.seqN ?_
  refine WC.condT (by as_aux_lemma => kernel_rfl) (k := ?_)
  refine WC.seq ?_
  refine WC.region ?_
  refine WL.op (d := 2) (.int .i64 0) (by as_aux_lemma => kernel_rfl) (by as_aux_lemma => kernel_rfl) (by as_aux_lemma => kernel_rfl) rfl (by as_aux_lemma => kernel_rfl) (k := ?_)
  refine WL.nil ?_
  refine WX.seqN ?_
  refine WC.ret ?_
  refine WX.seqR ?_
  refine WX.ret (rs := [.tmp 2]) [.int .i64 0] (.int .i64 0) ⟨(by as_aux_lemma => kernel_rfl), trivial⟩ rfl rfl (k := ?_)
  exact ⟨rfl, K⟩
set_option maxRecDepth 100000 in
set_option maxHeartbeats 4000000 in
theorem rlMany_true {b dk ep ln : Nat} {at_ n : Int} {w : World} (hb : w.heap[b]? = some (.cells #[.pointer (some ⟨dk, 0, none⟩), .int .i64 at_, .int .i64 n, .bool true, .int .u64 (ep : Int), .int .i64 ln] 63 (0, 0))) (hn : 0 ≤ n ∧ n ≤ 1024) (hl : ln ≤ 1024) : Calls Tryz.prog 24 #[.pointer (some ⟨b, 0, none⟩)] w fun e_ w' => e_ = .returned (.int .i64 ((ln : Int))) ∧ Adds w w' := by
  have K : Keeps (fun _ => False) w w := Keeps.refl _ w
  refine Calls.start Tryz.func24 rfl (by as_aux_lemma => kernel_rfl) ?_
  refine WC.seq ?_
  refine WC.region ?_
  refine WL.op (d := 2) (.int .i64 0) (by as_aux_lemma => kernel_rfl) (by as_aux_lemma => kernel_rfl) (by as_aux_lemma => kernel_rfl) rfl (by as_aux_lemma => kernel_rfl) (k := ?_)
  refine WL.nil ?_
  refine WX.seqN ?_
  refine WC.seq ?_
  refine WC.seq ?_
  refine WC.region ?_
  refine WL.op (d := 3) (.pointer (some ⟨b, 0, none⟩)) (by as_aux_lemma => kernel_rfl) (by as_aux_lemma => kernel_rfl) (by as_aux_lemma => kernel_rfl) rfl (by as_aux_lemma => kernel_rfl) (k := ?_)
  refine WL.op (d := 4) (.pointer (some ⟨b, 0, none⟩)) (by as_aux_lemma => kernel_rfl) (by as_aux_lemma => kernel_rfl) (by as_aux_lemma => kernel_rfl) rfl (by as_aux_lemma => kernel_rfl) (k := ?_)
  refine WL.op (d := 5) (.pointer (some ⟨b, 3, none⟩)) (by as_aux_lemma => kernel_rfl) (by as_aux_lemma => kernel_rfl) (by as_aux_lemma => kernel_rfl) rfl (by as_aux_lemma => kernel_rfl) (k := ?_)
  refine WL.load (v := .bool true) (ld1 (T := 4) (i := 3) hb (by as_aux_lemma => kernel_rfl) (by as_aux_lemma => kernel_rfl)) (by as_aux_lemma => kernel_rfl) (by as_aux_lemma => kernel_rfl) (by as_aux_lemma => kernel_rfl) (k := ?_)
  refine WL.op (d := 7) (.bool false) (by as_aux_lemma => kernel_rfl) (by as_aux_lemma => kernel_rfl) (by as_aux_lemma => kernel_rfl) rfl (by as_aux_lemma => kernel_rfl) (k := ?_)
  refine WL.nil ?_
  refine WX.seqN ?_
  refine WC.condF (by as_aux_lemma => kernel_rfl) (k := ?_)
  refine WC.skip ?_
  refine WX.seqN ?_
  refine WC.seq ?_
  refine WC.region ?_
  refine WL.op (d := 8) (.pointer (some ⟨b, 0, none⟩)) (by as_aux_lemma => kernel_rfl) (by as_aux_lemma => kernel_rfl) (by as_aux_lemma => kernel_rfl) rfl (by as_aux_lemma => kernel_rfl) (k := ?_)
  refine WL.op (d := 9) (.pointer (some ⟨b, 0, none⟩)) (by as_aux_lemma => kernel_rfl) (by as_aux_lemma => kernel_rfl) (by as_aux_lemma => kernel_rfl) rfl (by as_aux_lemma => kernel_rfl) (k := ?_)
  refine WL.op (d := 10) (.pointer (some ⟨b, 5, none⟩)) (by as_aux_lemma => kernel_rfl) (by as_aux_lemma => kernel_rfl) (by as_aux_lemma => kernel_rfl) rfl (by as_aux_lemma => kernel_rfl) (k := ?_)
  refine WL.load (v := .int .i64 (ln : Int)) (ld1 (T := 3) (i := 5) hb (by as_aux_lemma => kernel_rfl) (by as_aux_lemma => kernel_rfl)) (by as_aux_lemma => kernel_rfl) (by as_aux_lemma => kernel_rfl) (by as_aux_lemma => kernel_rfl) (k := ?_)
  refine WL.op (d := 2) (.int .i64 (ln : Int)) (by as_aux_lemma => kernel_rfl) (by as_aux_lemma => kernel_rfl) (by as_aux_lemma => kernel_rfl) rfl (by as_aux_lemma => kernel_rfl) (k := ?_)
  refine WL.nil ?_
  refine WX.seqN ?_
  refine WC.ret ?_
  refine WX.ret (rs := [.tmp 2]) [.int .i64 (ln : Int)] (.int .i64 (ln : Int)) ⟨(by as_aux_lemma => kernel_rfl), trivial⟩ rfl rfl (k := ?_)
  exact ⟨rfl, K⟩
set_option maxRecDepth 100000 in
set_option maxHeartbeats 4000000 in
theorem rlMany_false {b dk ep ln : Nat} {at_ n : Int} {w : World} (hb : w.heap[b]? = some (.cells #[.pointer (some ⟨dk, 0, none⟩), .int .i64 at_, .int .i64 n, .bool false, .int .u64 (ep : Int), .int .i64 ln] 63 (0, 0))) (hn : 0 ≤ n ∧ n ≤ 1024) (hl : ln ≤ 1024) : Calls Tryz.prog 24 #[.pointer (some ⟨b, 0, none⟩)] w fun e_ w' => e_ = .returned (.int .i64 (0)) ∧ Adds w w' := by
  have K : Keeps (fun _ => False) w w := Keeps.refl _ w
  refine Calls.start Tryz.func24 rfl (by as_aux_lemma => kernel_rfl) ?_
  refine WC.seq ?_
  refine WC.region ?_
  refine WL.op (d := 2) (.int .i64 0) (by as_aux_lemma => kernel_rfl) (by as_aux_lemma => kernel_rfl) (by as_aux_lemma => kernel_rfl) rfl (by as_aux_lemma => kernel_rfl) (k := ?_)
  refine WL.nil ?_
  refine WX.seqN ?_
  refine WC.seq ?_
  refine WC.seq ?_
  refine WC.region ?_
  refine WL.op (d := 3) (.pointer (some ⟨b, 0, none⟩)) (by as_aux_lemma => kernel_rfl) (by as_aux_lemma => kernel_rfl) (by as_aux_lemma => kernel_rfl) rfl (by as_aux_lemma => kernel_rfl) (k := ?_)
  refine WL.op (d := 4) (.pointer (some ⟨b, 0, none⟩)) (by as_aux_lemma => kernel_rfl) (by as_aux_lemma => kernel_rfl) (by as_aux_lemma => kernel_rfl) rfl (by as_aux_lemma => kernel_rfl) (k := ?_)
  refine WL.op (d := 5) (.pointer (some ⟨b, 3, none⟩)) (by as_aux_lemma => kernel_rfl) (by as_aux_lemma => kernel_rfl) (by as_aux_lemma => kernel_rfl) rfl (by as_aux_lemma => kernel_rfl) (k := ?_)
  refine WL.load (v := .bool false) (ld1 (T := 4) (i := 3) hb (by as_aux_lemma => kernel_rfl) (by as_aux_lemma => kernel_rfl)) (by as_aux_lemma => kernel_rfl) (by as_aux_lemma => kernel_rfl) (by as_aux_lemma => kernel_rfl) (k := ?_)
  refine WL.op (d := 7) (.bool true) (by as_aux_lemma => kernel_rfl) (by as_aux_lemma => kernel_rfl) (by as_aux_lemma => kernel_rfl) rfl (by as_aux_lemma => kernel_rfl) (k := ?_)
  refine WL.nil ?_
  refine WX.seqN ?_
  refine WC.condT (by as_aux_lemma => kernel_rfl) (k := ?_)
  refine WC.seq ?_
  refine WC.region ?_
  refine WL.op (d := 2) (.int .i64 0) (by as_aux_lemma => kernel_rfl) (by as_aux_lemma => kernel_rfl) (by as_aux_lemma => kernel_rfl) rfl (by as_aux_lemma => kernel_rfl) (k := ?_)
  refine WL.nil ?_
  refine WX.seqN ?_
  refine WC.ret ?_
  refine WX.seqR ?_
  refine WX.ret (rs := [.tmp 2]) [.int .i64 0] (.int .i64 0) ⟨(by as_aux_lemma => kernel_rfl), trivial⟩ rfl rfl (k := ?_)
  exact ⟨rfl, K⟩
set_option maxRecDepth 100000 in
set_option maxHeartbeats 4000000 in
theorem rlApp_long {S : Nat → Prop} {b dk ep ln : Nat} {op : Bool} {d : GDisk} {at_ n : Int} {w : World} {l : List UInt8} (hb : w.heap[b]? = some (.cells #[.pointer (some ⟨dk, 0, none⟩), .int .i64 at_, .int .i64 n, .bool op, .int .u64 (ep : Int), .int .i64 (ln : Int)] 63 (0, 0))) (hd : RefAt S dk d w) (hnb : ¬ S b) (hl : 43 < l.length) : Calls Tryz.prog 20 #[.pointer (some ⟨b, 0, none⟩), .string ⟨l.toArray⟩] w fun e_ w' => e_ = .returned (.int .i64 1) ∧ Adds w w' := by
  have K : Keeps (fun _ => False) w w := Keeps.refl _ w
  have lk0 : ∀ k, S k → S k ∨ w.heap.size ≤ k := fun k h => .inl h
  have h1 : (decide ((l.length : Int) > 43)) = true := decide_eq_true (by omega)
  have ph1 := of_decide_eq_true h1
  refine Calls.start Tryz.func20 rfl (by as_aux_lemma => kernel_rfl) ?_
  refine WC.seq ?_
  refine WC.region ?_
  refine WL.op (d := 4) (.int .i64 0) (by as_aux_lemma => kernel_rfl) (by as_aux_lemma => kernel_rfl) (by as_aux_lemma => kernel_rfl) rfl (by as_aux_lemma => kernel_rfl) (k := ?_)
  refine WL.nil ?_
  refine WX.seqN ?_
  refine WC.seq ?_
  refine WC.seq ?_
  refine WC.region ?_
  refine WL.op (d := 8) (.string ⟨(l).toArray⟩) (by as_aux_lemma => kernel_rfl) (by as_aux_lemma => kernel_rfl) (by as_aux_lemma => kernel_rfl) rfl (by as_aux_lemma => kernel_rfl) (k := ?_)
  refine WL.op (d := 9) (.int .i64 (l.length : Int)) (by as_aux_lemma => kernel_rfl) (by as_aux_lemma => kernel_rfl) (by as_aux_lemma => kernel_rfl) rfl (by as_aux_lemma => kernel_rfl) (k := ?_)
  refine WL.op (d := 10) (.bool (decide ((l.length : Int) > 43))) (by as_aux_lemma => kernel_rfl) (by as_aux_lemma => kernel_rfl) (by as_aux_lemma => kernel_rfl) rfl (by as_aux_lemma => kernel_rfl) (k := ?_)
  refine WL.nil ?_
  refine WX.seqN ?_
  refine WC.rw (t := 10) (v := .bool true) (congrArg Value.bool h1) (by as_aux_lemma => kernel_rfl) (k := ?_)
  refine WC.condT (by as_aux_lemma => kernel_rfl) (k := ?_)
  refine WC.seq ?_
  refine WC.region ?_
  refine WL.op (d := 4) (.int .i64 1) (by as_aux_lemma => kernel_rfl) (by as_aux_lemma => kernel_rfl) (by as_aux_lemma => kernel_rfl) rfl (by as_aux_lemma => kernel_rfl) (k := ?_)
  refine WL.nil ?_
  refine WX.seqN ?_
  refine WC.ret ?_
  refine WX.seqR ?_
  refine WX.ret (rs := [.tmp 4]) [.int .i64 1] (.int .i64 1) ⟨(by as_aux_lemma => kernel_rfl), trivial⟩ rfl rfl (k := ?_)
  exact ⟨rfl, K⟩
set_option maxRecDepth 100000 in
set_option maxHeartbeats 4000000 in
theorem rlApp_shut {S : Nat → Prop} {b dk ep ln : Nat} {op : Bool} {d : GDisk} {at_ n : Int} {w : World} {l : List UInt8} (hb : w.heap[b]? = some (.cells #[.pointer (some ⟨dk, 0, none⟩), .int .i64 at_, .int .i64 n, .bool false, .int .u64 (ep : Int), .int .i64 (ln : Int)] 63 (0, 0))) (hd : RefAt S dk d w) (hnb : ¬ S b) (hl : l.length ≤ 43) : Calls Tryz.prog 20 #[.pointer (some ⟨b, 0, none⟩), .string ⟨l.toArray⟩] w fun e_ w' => e_ = .returned (.int .i64 13) ∧ Adds w w' := by
  have K : Keeps (fun _ => False) w w := Keeps.refl _ w
  have lk0 : ∀ k, S k → S k ∨ w.heap.size ≤ k := fun k h => .inl h
  have h1 : (decide ((l.length : Int) > 43)) = false := decide_eq_false (by omega)
  have ph1 := of_decide_eq_false h1
  refine Calls.start Tryz.func20 rfl (by as_aux_lemma => kernel_rfl) ?_
  refine WC.seq ?_
  refine WC.region ?_
  refine WL.op (d := 4) (.int .i64 0) (by as_aux_lemma => kernel_rfl) (by as_aux_lemma => kernel_rfl) (by as_aux_lemma => kernel_rfl) rfl (by as_aux_lemma => kernel_rfl) (k := ?_)
  refine WL.nil ?_
  refine WX.seqN ?_
  refine WC.seq ?_
  refine WC.seq ?_
  refine WC.region ?_
  refine WL.op (d := 8) (.string ⟨(l).toArray⟩) (by as_aux_lemma => kernel_rfl) (by as_aux_lemma => kernel_rfl) (by as_aux_lemma => kernel_rfl) rfl (by as_aux_lemma => kernel_rfl) (k := ?_)
  refine WL.op (d := 9) (.int .i64 (l.length : Int)) (by as_aux_lemma => kernel_rfl) (by as_aux_lemma => kernel_rfl) (by as_aux_lemma => kernel_rfl) rfl (by as_aux_lemma => kernel_rfl) (k := ?_)
  refine WL.op (d := 10) (.bool (decide ((l.length : Int) > 43))) (by as_aux_lemma => kernel_rfl) (by as_aux_lemma => kernel_rfl) (by as_aux_lemma => kernel_rfl) rfl (by as_aux_lemma => kernel_rfl) (k := ?_)
  refine WL.nil ?_
  refine WX.seqN ?_
  refine WC.rw (t := 10) (v := .bool false) (congrArg Value.bool h1) (by as_aux_lemma => kernel_rfl) (k := ?_)
  refine WC.condF (by as_aux_lemma => kernel_rfl) (k := ?_)
  refine WC.skip ?_
  refine WX.seqN ?_
  refine WC.seq ?_
  refine WC.seq ?_
  refine WC.region ?_
  refine WL.op (d := 11) (.pointer (some ⟨b, 0, none⟩)) (by as_aux_lemma => kernel_rfl) (by as_aux_lemma => kernel_rfl) (by as_aux_lemma => kernel_rfl) rfl (by as_aux_lemma => kernel_rfl) (k := ?_)
  refine WL.op (d := 12) (.pointer (some ⟨b, 0, none⟩)) (by as_aux_lemma => kernel_rfl) (by as_aux_lemma => kernel_rfl) (by as_aux_lemma => kernel_rfl) rfl (by as_aux_lemma => kernel_rfl) (k := ?_)
  refine WL.op (d := 13) (.pointer (some ⟨b, 3, none⟩)) (by as_aux_lemma => kernel_rfl) (by as_aux_lemma => kernel_rfl) (by as_aux_lemma => kernel_rfl) rfl (by as_aux_lemma => kernel_rfl) (k := ?_)
  refine WL.load (v := .bool false) (ld1 (T := 4) (i := 3) hb (by as_aux_lemma => kernel_rfl) (by as_aux_lemma => kernel_rfl)) (by as_aux_lemma => kernel_rfl) (by as_aux_lemma => kernel_rfl) (by as_aux_lemma => kernel_rfl) (k := ?_)
  refine WL.op (d := 15) (.bool true) (by as_aux_lemma => kernel_rfl) (by as_aux_lemma => kernel_rfl) (by as_aux_lemma => kernel_rfl) rfl (by as_aux_lemma => kernel_rfl) (k := ?_)
  refine WL.nil ?_
  refine WX.seqN ?_
  refine WC.condT (by as_aux_lemma => kernel_rfl) (k := ?_)
  refine WC.seq ?_
  refine WC.region ?_
  refine WL.op (d := 4) (.int .i64 13) (by as_aux_lemma => kernel_rfl) (by as_aux_lemma => kernel_rfl) (by as_aux_lemma => kernel_rfl) rfl (by as_aux_lemma => kernel_rfl) (k := ?_)
  refine WL.nil ?_
  refine WX.seqN ?_
  refine WC.ret ?_
  refine WX.seqR ?_
  refine WX.ret (rs := [.tmp 4]) [.int .i64 13] (.int .i64 13) ⟨(by as_aux_lemma => kernel_rfl), trivial⟩ rfl rfl (k := ?_)
  exact ⟨rfl, K⟩
set_option maxRecDepth 100000 in
set_option maxHeartbeats 4000000 in
theorem rlApp_full {S : Nat → Prop} {b dk ep ln : Nat} {op : Bool} {d : GDisk} {at_ n : Int} {w : World} {l : List UInt8} (hb : w.heap[b]? = some (.cells #[.pointer (some ⟨dk, 0, none⟩), .int .i64 at_, .int .i64 n, .bool true, .int .u64 (ep : Int), .int .i64 (ln : Int)] 63 (0, 0))) (hd : RefAt S dk d w) (hnb : ¬ S b) (hl : l.length ≤ 43) (hr : n ≤ (ln : Int)) : Calls Tryz.prog 20 #[.pointer (some ⟨b, 0, none⟩), .string ⟨l.toArray⟩] w fun e_ w' => e_ = .returned (.int .i64 22) ∧ Adds w w' := by
  have K : Keeps (fun _ => False) w w := Keeps.refl _ w
  have lk0 : ∀ k, S k → S k ∨ w.heap.size ≤ k := fun k h => .inl h
  have h1 : (decide ((l.length : Int) > 43)) = false := decide_eq_false (by omega)
  have ph1 := of_decide_eq_false h1
  have h2 : (decide ((ln : Int) ≥ n)) = true := decide_eq_true (by omega)
  have ph2 := of_decide_eq_true h2
  refine Calls.start Tryz.func20 rfl (by as_aux_lemma => kernel_rfl) ?_
  refine WC.seq ?_
  refine WC.region ?_
  refine WL.op (d := 4) (.int .i64 0) (by as_aux_lemma => kernel_rfl) (by as_aux_lemma => kernel_rfl) (by as_aux_lemma => kernel_rfl) rfl (by as_aux_lemma => kernel_rfl) (k := ?_)
  refine WL.nil ?_
  refine WX.seqN ?_
  refine WC.seq ?_
  refine WC.seq ?_
  refine WC.region ?_
  refine WL.op (d := 8) (.string ⟨(l).toArray⟩) (by as_aux_lemma => kernel_rfl) (by as_aux_lemma => kernel_rfl) (by as_aux_lemma => kernel_rfl) rfl (by as_aux_lemma => kernel_rfl) (k := ?_)
  refine WL.op (d := 9) (.int .i64 (l.length : Int)) (by as_aux_lemma => kernel_rfl) (by as_aux_lemma => kernel_rfl) (by as_aux_lemma => kernel_rfl) rfl (by as_aux_lemma => kernel_rfl) (k := ?_)
  refine WL.op (d := 10) (.bool (decide ((l.length : Int) > 43))) (by as_aux_lemma => kernel_rfl) (by as_aux_lemma => kernel_rfl) (by as_aux_lemma => kernel_rfl) rfl (by as_aux_lemma => kernel_rfl) (k := ?_)
  refine WL.nil ?_
  refine WX.seqN ?_
  refine WC.rw (t := 10) (v := .bool false) (congrArg Value.bool h1) (by as_aux_lemma => kernel_rfl) (k := ?_)
  refine WC.condF (by as_aux_lemma => kernel_rfl) (k := ?_)
  refine WC.skip ?_
  refine WX.seqN ?_
  refine WC.seq ?_
  refine WC.seq ?_
  refine WC.region ?_
  refine WL.op (d := 11) (.pointer (some ⟨b, 0, none⟩)) (by as_aux_lemma => kernel_rfl) (by as_aux_lemma => kernel_rfl) (by as_aux_lemma => kernel_rfl) rfl (by as_aux_lemma => kernel_rfl) (k := ?_)
  refine WL.op (d := 12) (.pointer (some ⟨b, 0, none⟩)) (by as_aux_lemma => kernel_rfl) (by as_aux_lemma => kernel_rfl) (by as_aux_lemma => kernel_rfl) rfl (by as_aux_lemma => kernel_rfl) (k := ?_)
  refine WL.op (d := 13) (.pointer (some ⟨b, 3, none⟩)) (by as_aux_lemma => kernel_rfl) (by as_aux_lemma => kernel_rfl) (by as_aux_lemma => kernel_rfl) rfl (by as_aux_lemma => kernel_rfl) (k := ?_)
  refine WL.load (v := .bool true) (ld1 (T := 4) (i := 3) hb (by as_aux_lemma => kernel_rfl) (by as_aux_lemma => kernel_rfl)) (by as_aux_lemma => kernel_rfl) (by as_aux_lemma => kernel_rfl) (by as_aux_lemma => kernel_rfl) (k := ?_)
  refine WL.op (d := 15) (.bool false) (by as_aux_lemma => kernel_rfl) (by as_aux_lemma => kernel_rfl) (by as_aux_lemma => kernel_rfl) rfl (by as_aux_lemma => kernel_rfl) (k := ?_)
  refine WL.nil ?_
  refine WX.seqN ?_
  refine WC.condF (by as_aux_lemma => kernel_rfl) (k := ?_)
  refine WC.skip ?_
  refine WX.seqN ?_
  refine WC.seq ?_
  refine WC.seq ?_
  refine WC.quiet (by kernel_rfl) (by as_aux_lemma => kernel_rfl) (k := ?_)
  refine WQ.op (d := 16) (.pointer (some ⟨b, 0, none⟩)) (by as_aux_lemma => kernel_rfl) (by as_aux_lemma => kernel_rfl) (fun _ _ => by kernel_rfl) rfl (by as_aux_lemma => kernel_rfl) (k := ?_)
  refine WQ.op (d := 17) (.pointer (some ⟨b, 0, none⟩)) (by as_aux_lemma => kernel_rfl) (by as_aux_lemma => kernel_rfl) (fun _ _ => by kernel_rfl) rfl (by as_aux_lemma => kernel_rfl) (k := ?_)
  refine WQ.op (d := 18) (.pointer (some ⟨b, 5, none⟩)) (by as_aux_lemma => kernel_rfl) (by as_aux_lemma => kernel_rfl) (fun _ _ => by kernel_rfl) rfl (by as_aux_lemma => kernel_rfl) (k := ?_)
  refine WQ.load (v := .int .i64 (ln : Int)) (fun w_ k_ => ld1 (T := 3) (i := 5) (k_.heap hb id) (by as_aux_lemma => kernel_rfl) (by as_aux_lemma => kernel_rfl)) (by as_aux_lemma => kernel_rfl) (by as_aux_lemma => kernel_rfl) (by as_aux_lemma => kernel_rfl) (k := ?_)
  refine WQ.op (d := 20) (.pointer (some ⟨b, 0, none⟩)) (by as_aux_lemma => kernel_rfl) (by as_aux_lemma => kernel_rfl) (fun _ _ => by kernel_rfl) rfl (by as_aux_lemma => kernel_rfl) (k := ?_)
  refine WQ.op (d := 21) (.pointer (some ⟨b, 0, none⟩)) (by as_aux_lemma => kernel_rfl) (by as_aux_lemma => kernel_rfl) (fun _ _ => by kernel_rfl) rfl (by as_aux_lemma => kernel_rfl) (k := ?_)
  refine WQ.op (d := 22) (.pointer (some ⟨b, 2, none⟩)) (by as_aux_lemma => kernel_rfl) (by as_aux_lemma => kernel_rfl) (fun _ _ => by kernel_rfl) rfl (by as_aux_lemma => kernel_rfl) (k := ?_)
  refine WQ.load (v := .int .i64 n) (fun w_ k_ => ld1 (T := 3) (i := 2) (k_.heap hb id) (by as_aux_lemma => kernel_rfl) (by as_aux_lemma => kernel_rfl)) (by as_aux_lemma => kernel_rfl) (by as_aux_lemma => kernel_rfl) (by as_aux_lemma => kernel_rfl) (k := ?_)
  refine WQ.op (d := 24) (.bool (decide ((ln : Int) ≥ n))) (by as_aux_lemma => kernel_rfl) (by as_aux_lemma => kernel_rfl) (fun _ _ => by kernel_rfl) rfl (by as_aux_lemma => kernel_rfl) (k := ?_)
  refine WQ.nilX (fun w3 k4 => ?_)
  replace hb := k4.heap hb id
  replace hd := hd.adds k4
  replace K := K.trans (k4.any _)
  refine WX.seqN ?_
  refine WC.rw (t := 24) (v := .bool true) (congrArg Value.bool h2) (by as_aux_lemma => kernel_rfl) (k := ?_)
  refine WC.condT (by as_aux_lemma => kernel_rfl) (k := ?_)
  refine WC.seq ?_
  refine WC.region ?_
  refine WL.op (d := 4) (.int .i64 22) (by as_aux_lemma => kernel_rfl) (by as_aux_lemma => kernel_rfl) (by as_aux_lemma => kernel_rfl) rfl (by as_aux_lemma => kernel_rfl) (k := ?_)
  refine WL.nil ?_
  refine WX.seqN ?_
  refine WC.ret ?_
  refine WX.seqR ?_
  refine WX.ret (rs := [.tmp 4]) [.int .i64 22] (.int .i64 22) ⟨(by as_aux_lemma => kernel_rfl), trivial⟩ rfl rfl (k := ?_)
  exact ⟨rfl, K⟩
set_option maxRecDepth 100000 in
set_option maxHeartbeats 4000000 in
theorem rlApp_go {S : Nat → Prop} {b dk ep ln : Nat} {op : Bool} {d : GDisk} {at_ n : Int} {w : World} {l : List UInt8} (hb : w.heap[b]? = some (.cells #[.pointer (some ⟨dk, 0, none⟩), .int .i64 at_, .int .i64 n, .bool true, .int .u64 (ep : Int), .int .i64 (ln : Int)] 63 (0, 0))) (hd : RefAt S dk d w) (hnb : ¬ S b) (hl : l.length ≤ 43) (a0 : 0 ≤ at_) (a1 : at_ ≤ 1024) (l1 : ln ≤ 1024) (he : ep < 18446744073709551616) (hm : d.opn.length < 1000000) (hr : (ln : Int) < n) : Calls Tryz.prog 20 #[.pointer (some ⟨b, 0, none⟩), .string ⟨l.toArray⟩] w fun e_ w' => e_ = .returned (.int .i64 (GDisk.wrsE d (at_ + (ln : Int)) (makeS l ep ln))) ∧ w'.heap[b]? = some (.cells #[.pointer (some ⟨dk, 0, none⟩), .int .i64 at_, .int .i64 n, .bool (decide (GDisk.wrsE d (at_ + (ln : Int)) (makeS l ep ln) = 0)), .int .u64 (ep : Int), .int .i64 (if GDisk.wrsE d (at_ + (ln : Int)) (makeS l ep ln) = 0 then (ln : Int) + 1 else (ln : Int))] 63 (0, 0)) ∧ ∃ S', RefAt S' dk (GDisk.wrsD d (at_ + (ln : Int)) (makeS l ep ln)) w' ∧ (∀ k, S' k → S k ∨ w.heap.size ≤ k) ∧ ¬ S' b ∧ Keeps (fun k => k = b ∨ S k) w w' := by
  have K : Keeps (fun k => k = b ∨ S k) w w := Keeps.refl _ w
  have lk0 : ∀ k, S k → S k ∨ w.heap.size ≤ k := fun k h => .inl h
  have h1 : (decide ((l.length : Int) > 43)) = false := decide_eq_false (by omega)
  have ph1 := of_decide_eq_false h1
  have h2 : (decide ((ln : Int) ≥ n)) = false := decide_eq_false (by omega)
  have ph2 := of_decide_eq_false h2
  refine Calls.start Tryz.func20 rfl (by as_aux_lemma => kernel_rfl) ?_
  refine WC.seq ?_
  refine WC.region ?_
  refine WL.op (d := 4) (.int .i64 0) (by as_aux_lemma => kernel_rfl) (by as_aux_lemma => kernel_rfl) (by as_aux_lemma => kernel_rfl) rfl (by as_aux_lemma => kernel_rfl) (k := ?_)
  refine WL.nil ?_
  refine WX.seqN ?_
  refine WC.seq ?_
  refine WC.seq ?_
  refine WC.region ?_
  refine WL.op (d := 8) (.string ⟨(l).toArray⟩) (by as_aux_lemma => kernel_rfl) (by as_aux_lemma => kernel_rfl) (by as_aux_lemma => kernel_rfl) rfl (by as_aux_lemma => kernel_rfl) (k := ?_)
  refine WL.op (d := 9) (.int .i64 (l.length : Int)) (by as_aux_lemma => kernel_rfl) (by as_aux_lemma => kernel_rfl) (by as_aux_lemma => kernel_rfl) rfl (by as_aux_lemma => kernel_rfl) (k := ?_)
  refine WL.op (d := 10) (.bool (decide ((l.length : Int) > 43))) (by as_aux_lemma => kernel_rfl) (by as_aux_lemma => kernel_rfl) (by as_aux_lemma => kernel_rfl) rfl (by as_aux_lemma => kernel_rfl) (k := ?_)
  refine WL.nil ?_
  refine WX.seqN ?_
  refine WC.rw (t := 10) (v := .bool false) (congrArg Value.bool h1) (by as_aux_lemma => kernel_rfl) (k := ?_)
  refine WC.condF (by as_aux_lemma => kernel_rfl) (k := ?_)
  refine WC.skip ?_
  refine WX.seqN ?_
  refine WC.seq ?_
  refine WC.seq ?_
  refine WC.region ?_
  refine WL.op (d := 11) (.pointer (some ⟨b, 0, none⟩)) (by as_aux_lemma => kernel_rfl) (by as_aux_lemma => kernel_rfl) (by as_aux_lemma => kernel_rfl) rfl (by as_aux_lemma => kernel_rfl) (k := ?_)
  refine WL.op (d := 12) (.pointer (some ⟨b, 0, none⟩)) (by as_aux_lemma => kernel_rfl) (by as_aux_lemma => kernel_rfl) (by as_aux_lemma => kernel_rfl) rfl (by as_aux_lemma => kernel_rfl) (k := ?_)
  refine WL.op (d := 13) (.pointer (some ⟨b, 3, none⟩)) (by as_aux_lemma => kernel_rfl) (by as_aux_lemma => kernel_rfl) (by as_aux_lemma => kernel_rfl) rfl (by as_aux_lemma => kernel_rfl) (k := ?_)
  refine WL.load (v := .bool true) (ld1 (T := 4) (i := 3) hb (by as_aux_lemma => kernel_rfl) (by as_aux_lemma => kernel_rfl)) (by as_aux_lemma => kernel_rfl) (by as_aux_lemma => kernel_rfl) (by as_aux_lemma => kernel_rfl) (k := ?_)
  refine WL.op (d := 15) (.bool false) (by as_aux_lemma => kernel_rfl) (by as_aux_lemma => kernel_rfl) (by as_aux_lemma => kernel_rfl) rfl (by as_aux_lemma => kernel_rfl) (k := ?_)
  refine WL.nil ?_
  refine WX.seqN ?_
  refine WC.condF (by as_aux_lemma => kernel_rfl) (k := ?_)
  refine WC.skip ?_
  refine WX.seqN ?_
  refine WC.seq ?_
  refine WC.seq ?_
  refine WC.quiet (by kernel_rfl) (by as_aux_lemma => kernel_rfl) (k := ?_)
  refine WQ.op (d := 16) (.pointer (some ⟨b, 0, none⟩)) (by as_aux_lemma => kernel_rfl) (by as_aux_lemma => kernel_rfl) (fun _ _ => by kernel_rfl) rfl (by as_aux_lemma => kernel_rfl) (k := ?_)
  refine WQ.op (d := 17) (.pointer (some ⟨b, 0, none⟩)) (by as_aux_lemma => kernel_rfl) (by as_aux_lemma => kernel_rfl) (fun _ _ => by kernel_rfl) rfl (by as_aux_lemma => kernel_rfl) (k := ?_)
  refine WQ.op (d := 18) (.pointer (some ⟨b, 5, none⟩)) (by as_aux_lemma => kernel_rfl) (by as_aux_lemma => kernel_rfl) (fun _ _ => by kernel_rfl) rfl (by as_aux_lemma => kernel_rfl) (k := ?_)
  refine WQ.load (v := .int .i64 (ln : Int)) (fun w_ k_ => ld1 (T := 3) (i := 5) (k_.heap hb id) (by as_aux_lemma => kernel_rfl) (by as_aux_lemma => kernel_rfl)) (by as_aux_lemma => kernel_rfl) (by as_aux_lemma => kernel_rfl) (by as_aux_lemma => kernel_rfl) (k := ?_)
  refine WQ.op (d := 20) (.pointer (some ⟨b, 0, none⟩)) (by as_aux_lemma => kernel_rfl) (by as_aux_lemma => kernel_rfl) (fun _ _ => by kernel_rfl) rfl (by as_aux_lemma => kernel_rfl) (k := ?_)
  refine WQ.op (d := 21) (.pointer (some ⟨b, 0, none⟩)) (by as_aux_lemma => kernel_rfl) (by as_aux_lemma => kernel_rfl) (fun _ _ => by kernel_rfl) rfl (by as_aux_lemma => kernel_rfl) (k := ?_)
  refine WQ.op (d := 22) (.pointer (some ⟨b, 2, none⟩)) (by as_aux_lemma => kernel_rfl) (by as_aux_lemma => kernel_rfl) (fun _ _ => by kernel_rfl) rfl (by as_aux_lemma => kernel_rfl) (k := ?_)
  refine WQ.load (v := .int .i64 n) (fun w_ k_ => ld1 (T := 3) (i := 2) (k_.heap hb id) (by as_aux_lemma => kernel_rfl) (by as_aux_lemma => kernel_rfl)) (by as_aux_lemma => kernel_rfl) (by as_aux_lemma => kernel_rfl) (by as_aux_lemma => kernel_rfl) (k := ?_)
  refine WQ.op (d := 24) (.bool (decide ((ln : Int) ≥ n))) (by as_aux_lemma => kernel_rfl) (by as_aux_lemma => kernel_rfl) (fun _ _ => by kernel_rfl) rfl (by as_aux_lemma => kernel_rfl) (k := ?_)
  refine WQ.nilX (fun w3 k4 => ?_)
  replace hb := k4.heap hb id
  replace hd := hd.adds k4
  replace K := K.trans (k4.any _)
  refine WX.seqN ?_
  refine WC.rw (t := 24) (v := .bool false) (congrArg Value.bool h2) (by as_aux_lemma => kernel_rfl) (k := ?_)
  refine WC.condF (by as_aux_lemma => kernel_rfl) (k := ?_)
  refine WC.skip ?_
  refine WX.seqN ?_
  refine WC.seq ?_
  refine WC.quiet (by kernel_rfl) (by as_aux_lemma => kernel_rfl) (k := ?_)
  refine WQ.op (d := 26) (.string ⟨(l).toArray⟩) (by as_aux_lemma => kernel_rfl) (by as_aux_lemma => kernel_rfl) (fun _ _ => by kernel_rfl) rfl (by as_aux_lemma => kernel_rfl) (k := ?_)
  refine WQ.op (d := 27) (.pointer (some ⟨b, 0, none⟩)) (by as_aux_lemma => kernel_rfl) (by as_aux_lemma => kernel_rfl) (fun _ _ => by kernel_rfl) rfl (by as_aux_lemma => kernel_rfl) (k := ?_)
  refine WQ.op (d := 28) (.pointer (some ⟨b, 0, none⟩)) (by as_aux_lemma => kernel_rfl) (by as_aux_lemma => kernel_rfl) (fun _ _ => by kernel_rfl) rfl (by as_aux_lemma => kernel_rfl) (k := ?_)
  refine WQ.op (d := 29) (.pointer (some ⟨b, 4, none⟩)) (by as_aux_lemma => kernel_rfl) (by as_aux_lemma => kernel_rfl) (fun _ _ => by kernel_rfl) rfl (by as_aux_lemma => kernel_rfl) (k := ?_)
  refine WQ.load (v := .int .u64 ((ep : Nat) : Int)) (fun w_ k_ => ld1 (T := 32) (i := 4) (k_.heap hb id) (by as_aux_lemma => kernel_rfl) (by as_aux_lemma => kernel_rfl)) (by as_aux_lemma => kernel_rfl) (by as_aux_lemma => kernel_rfl) (by as_aux_lemma => kernel_rfl) (k := ?_)
  refine WQ.op (d := 31) (.pointer (some ⟨b, 0, none⟩)) (by as_aux_lemma => kernel_rfl) (by as_aux_lemma => kernel_rfl) (fun _ _ => by kernel_rfl) rfl (by as_aux_lemma => kernel_rfl) (k := ?_)
  refine WQ.op (d := 32) (.pointer (some ⟨b, 0, none⟩)) (by as_aux_lemma => kernel_rfl) (by as_aux_lemma => kernel_rfl) (fun _ _ => by kernel_rfl) rfl (by as_aux_lemma => kernel_rfl) (k := ?_)
  refine WQ.op (d := 33) (.pointer (some ⟨b, 5, none⟩)) (by as_aux_lemma => kernel_rfl) (by as_aux_lemma => kernel_rfl) (fun _ _ => by kernel_rfl) rfl (by as_aux_lemma => kernel_rfl) (k := ?_)
  refine WQ.load (v := .int .i64 (ln : Int)) (fun w_ k_ => ld1 (T := 3) (i := 5) (k_.heap hb id) (by as_aux_lemma => kernel_rfl) (by as_aux_lemma => kernel_rfl)) (by as_aux_lemma => kernel_rfl) (by as_aux_lemma => kernel_rfl) (by as_aux_lemma => kernel_rfl) (k := ?_)
  refine WQ.opE (d := 35) (.int .u64 (IntKind.u64.wrap (ln : Int))) (v := .int .u64 ((ln : Nat) : Int)) (congrArg (Value.int .u64) (IntWalk.u64_in _ (by omega))) (by as_aux_lemma => kernel_rfl) (by as_aux_lemma => kernel_rfl) (fun _ _ => by kernel_rfl) rfl (by as_aux_lemma => kernel_rfl) (k := ?_)
  refine WQ.op (d := 36) (.agg #[.string ⟨(l).toArray⟩, .int .u64 ((ep : Nat) : Int), .int .u64 ((ln : Nat) : Int)]) (by as_aux_lemma => kernel_rfl) (by as_aux_lemma => kernel_rfl) (fun _ _ => by kernel_rfl) rfl (by as_aux_lemma => kernel_rfl) (k := ?_)
  refine WQ.callG (d := 37) (f := 35) (args := #[.agg #[.string ⟨(l).toArray⟩, .int .u64 ((ep : Nat) : Int), .int .u64 ((ln : Nat) : Int)]]) (v := .tuple #[.string ⟨(makeS l ep ln).toArray⟩, .int .i64 0]) (fun w_ k_ => u04Make_ok (p := l) (e := ep) (n := ln) (by first | omega | (simp; done) | (simp; omega)) (by show List.length l ≤ _; first | omega | (simp; done) | (simp; omega)) (by omega) (by omega) w_) addsR (by as_aux_lemma => kernel_rfl) (by as_aux_lemma => kernel_rfl) (fun _ _ => by kernel_rfl) rfl (by as_aux_lemma => kernel_rfl) (k := ?_)
  have ml5 := makeS_len (p := l) (by first | omega | (simp; done) | (simp; omega)) ep ln
  refine WQ.op (d := 25) (.tuple #[.string ⟨(makeS l ep ln).toArray⟩, .int .i64 0]) (by as_aux_lemma => kernel_rfl) (by as_aux_lemma => kernel_rfl) (fun _ _ => by kernel_rfl) rfl (by as_aux_lemma => kernel_rfl) (k := ?_)
  refine WQ.op (d := 38) (.string ⟨(makeS l ep ln).toArray⟩) (by as_aux_lemma => kernel_rfl) (by as_aux_lemma => kernel_rfl) (fun _ _ => by kernel_rfl) rfl (by as_aux_lemma => kernel_rfl) (k := ?_)
  refine WQ.op (d := 39) (.int .i64 0) (by as_aux_lemma => kernel_rfl) (by as_aux_lemma => kernel_rfl) (fun _ _ => by kernel_rfl) rfl (by as_aux_lemma => kernel_rfl) (k := ?_)
  refine WQ.op (d := 5) (.string ⟨(makeS l ep ln).toArray⟩) (by as_aux_lemma => kernel_rfl) (by as_aux_lemma => kernel_rfl) (fun _ _ => by kernel_rfl) rfl (by as_aux_lemma => kernel_rfl) (k := ?_)
  refine WQ.op (d := 6) (.int .i64 0) (by as_aux_lemma => kernel_rfl) (by as_aux_lemma => kernel_rfl) (fun _ _ => by kernel_rfl) rfl (by as_aux_lemma => kernel_rfl) (k := ?_)
  refine WQ.nilX (fun w6 k7 => ?_)
  replace hb := k7.heap hb id
  replace hd := hd.adds k7
  replace K := K.trans (k7.any _)
  refine WX.seqN ?_
  refine WC.seq ?_
  refine WC.tail 14 (by kernel_rfl) (by as_aux_lemma => kernel_rfl) (k := ?_)
  refine WQ.op (d := 40) (.pointer (some ⟨b, 0, none⟩)) (by as_aux_lemma => kernel_rfl) (by as_aux_lemma => kernel_rfl) (fun _ _ => by kernel_rfl) rfl (by as_aux_lemma => kernel_rfl) (k := ?_)
  refine WQ.op (d := 41) (.pointer (some ⟨b, 0, none⟩)) (by as_aux_lemma => kernel_rfl) (by as_aux_lemma => kernel_rfl) (fun _ _ => by kernel_rfl) rfl (by as_aux_lemma => kernel_rfl) (k := ?_)
  refine WQ.op (d := 42) (.pointer (some ⟨b, 0, none⟩)) (by as_aux_lemma => kernel_rfl) (by as_aux_lemma => kernel_rfl) (fun _ _ => by kernel_rfl) rfl (by as_aux_lemma => kernel_rfl) (k := ?_)
  refine WQ.load (v := .pointer (some ⟨dk, 0, none⟩)) (fun w_ k_ => ld1 (T := 28) (i := 0) (k_.heap hb id) (by as_aux_lemma => kernel_rfl) (by as_aux_lemma => kernel_rfl)) (by as_aux_lemma => kernel_rfl) (by as_aux_lemma => kernel_rfl) (by as_aux_lemma => kernel_rfl) (k := ?_)
  refine WQ.op (d := 44) (.pointer (some ⟨b, 0, none⟩)) (by as_aux_lemma => kernel_rfl) (by as_aux_lemma => kernel_rfl) (fun _ _ => by kernel_rfl) rfl (by as_aux_lemma => kernel_rfl) (k := ?_)
  refine WQ.op (d := 45) (.pointer (some ⟨b, 0, none⟩)) (by as_aux_lemma => kernel_rfl) (by as_aux_lemma => kernel_rfl) (fun _ _ => by kernel_rfl) rfl (by as_aux_lemma => kernel_rfl) (k := ?_)
  refine WQ.op (d := 46) (.pointer (some ⟨b, 1, none⟩)) (by as_aux_lemma => kernel_rfl) (by as_aux_lemma => kernel_rfl) (fun _ _ => by kernel_rfl) rfl (by as_aux_lemma => kernel_rfl) (k := ?_)
  refine WQ.load (v := .int .i64 at_) (fun w_ k_ => ld1 (T := 3) (i := 1) (k_.heap hb id) (by as_aux_lemma => kernel_rfl) (by as_aux_lemma => kernel_rfl)) (by as_aux_lemma => kernel_rfl) (by as_aux_lemma => kernel_rfl) (by as_aux_lemma => kernel_rfl) (k := ?_)
  refine WQ.op (d := 48) (.pointer (some ⟨b, 0, none⟩)) (by as_aux_lemma => kernel_rfl) (by as_aux_lemma => kernel_rfl) (fun _ _ => by kernel_rfl) rfl (by as_aux_lemma => kernel_rfl) (k := ?_)
  refine WQ.op (d := 49) (.pointer (some ⟨b, 0, none⟩)) (by as_aux_lemma => kernel_rfl) (by as_aux_lemma => kernel_rfl) (fun _ _ => by kernel_rfl) rfl (by as_aux_lemma => kernel_rfl) (k := ?_)
  refine WQ.op (d := 50) (.pointer (some ⟨b, 5, none⟩)) (by as_aux_lemma => kernel_rfl) (by as_aux_lemma => kernel_rfl) (fun _ _ => by kernel_rfl) rfl (by as_aux_lemma => kernel_rfl) (k := ?_)
  refine WQ.load (v := .int .i64 (ln : Int)) (fun w_ k_ => ld1 (T := 3) (i := 5) (k_.heap hb id) (by as_aux_lemma => kernel_rfl) (by as_aux_lemma => kernel_rfl)) (by as_aux_lemma => kernel_rfl) (by as_aux_lemma => kernel_rfl) (by as_aux_lemma => kernel_rfl) (k := ?_)
  refine WQ.opE (d := 52) (.int .i64 (IntKind.i64.wrap (at_ + (ln : Int)))) (v := .int .i64 (at_ + (ln : Int))) (congrArg (Value.int .i64) (IntWalk.i64_in _ (by omega))) (by as_aux_lemma => kernel_rfl) (by as_aux_lemma => kernel_rfl) (fun _ _ => by kernel_rfl) rfl (by as_aux_lemma => kernel_rfl) (k := ?_)
  refine WQ.op (d := 53) (.string ⟨(makeS l ep ln).toArray⟩) (by as_aux_lemma => kernel_rfl) (by as_aux_lemma => kernel_rfl) (fun _ _ => by kernel_rfl) rfl (by as_aux_lemma => kernel_rfl) (k := ?_)
  refine WQ.nilL (fun w8 k9 => ?_)
  replace hb := k9.heap hb id
  replace hd := hd.adds k9
  replace K := K.trans (k9.any _)
  refine WL.callG (d := 54) (f := 36) (args := #[.pointer (some ⟨dk, 0, none⟩), .int .i64 (at_ + (ln : Int)), .string ⟨(makeS l ep ln).toArray⟩]) (rdWrite_c (a := at_ + (ln : Int)) (l := makeS l ep ln) (by omega) (by show List.length (makeS l ep ln) ≤ _; first | omega | (simp; done) | (simp; omega)) hd) (by as_aux_lemma => kernel_rfl) (by as_aux_lemma => kernel_rfl) (by as_aux_lemma => kernel_rfl) rfl (by as_aux_lemma => kernel_rfl) (k := fun e_ w10 h_ => ?_)
  obtain ⟨rfl, S13, hd11, lk14, k12⟩ := h_
  refine ⟨_, rfl, ?_⟩
  have n15 : ¬ S13 b := fun h => (lk14 _ h).elim hnb (fun h2 => absurd (lt_of_heap hb) (Nat.not_lt.2 h2))
  have lk16 := lk_step lk0 lk14 K
  replace hb := k12.heap hb hnb
  replace K := K.trans' k12 (fun i hi e => (lk0 i e).elim (fun h => .inr h) (fun h => absurd hi (Nat.not_lt.2 h)))
  clear hd
  refine WL.op (d := 7) (.int .i64 (GDisk.writeE d (at_ + (ln : Int)) (makeS l ep ln))) (by as_aux_lemma => kernel_rfl) (by as_aux_lemma => kernel_rfl) (by as_aux_lemma => kernel_rfl) rfl (by as_aux_lemma => kernel_rfl) (k := ?_)
  refine WL.nil ?_
  refine WX.seqN ?_
  refine WC.seq ?_
  refine WC.seq ?_
  refine WC.region ?_
  refine WL.op (d := 55) (.int .i64 (GDisk.writeE d (at_ + (ln : Int)) (makeS l ep ln))) (by as_aux_lemma => kernel_rfl) (by as_aux_lemma => kernel_rfl) (by as_aux_lemma => kernel_rfl) rfl (by as_aux_lemma => kernel_rfl) (k := ?_)
  refine WL.op (d := 56) (.bool ((GDisk.writeE d (at_ + (ln : Int)) (makeS l ep ln)) == 0)) (by as_aux_lemma => kernel_rfl) (by as_aux_lemma => kernel_rfl) (by as_aux_lemma => kernel_rfl) rfl (by as_aux_lemma => kernel_rfl) (k := ?_)
  refine WL.nil ?_
  refine WX.seqN ?_
  refine WC.cond (b := (GDisk.writeE d (at_ + (ln : Int)) (makeS l ep ln)) == 0) (by as_aux_lemma => kernel_rfl) (ht := fun h17 => ?_) (hf := fun h17 => ?_)
  · have ph17 := eq_of_beq h17
    refine WC.region ?_
    refine WL.op (d := 57) (.pointer (some ⟨b, 0, none⟩)) (by as_aux_lemma => kernel_rfl) (by as_aux_lemma => kernel_rfl) (by as_aux_lemma => kernel_rfl) rfl (by as_aux_lemma => kernel_rfl) (k := ?_)
    refine WL.op (d := 58) (.pointer (some ⟨b, 0, none⟩)) (by as_aux_lemma => kernel_rfl) (by as_aux_lemma => kernel_rfl) (by as_aux_lemma => kernel_rfl) rfl (by as_aux_lemma => kernel_rfl) (k := ?_)
    refine WL.op (d := 59) (.pointer (some ⟨b, 0, none⟩)) (by as_aux_lemma => kernel_rfl) (by as_aux_lemma => kernel_rfl) (by as_aux_lemma => kernel_rfl) rfl (by as_aux_lemma => kernel_rfl) (k := ?_)
    refine WL.load (v := .pointer (some ⟨dk, 0, none⟩)) (ld1 (T := 28) (i := 0) hb (by as_aux_lemma => kernel_rfl) (by as_aux_lemma => kernel_rfl)) (by as_aux_lemma => kernel_rfl) (by as_aux_lemma => kernel_rfl) (by as_aux_lemma => kernel_rfl) (k := ?_)
    refine WL.callG (d := 61) (f := 37) (args := #[.pointer (some ⟨dk, 0, none⟩)]) (rdFlush_c hd11) (by as_aux_lemma => kernel_rfl) (by as_aux_lemma => kernel_rfl) (by as_aux_lemma => kernel_rfl) rfl (by as_aux_lemma => kernel_rfl) (k := fun e_ w18 h_ => ?_)
    obtain ⟨rfl, S21, hd19, lk22, k20⟩ := h_
    refine ⟨_, rfl, ?_⟩
    have n23 : ¬ S21 b := fun h => (lk22 _ h).elim n15 (fun h2 => absurd (lt_of_heap hb) (Nat.not_lt.2 h2))
    have lk24 := lk_step lk16 lk22 K
    replace hb := k20.heap hb n15
    replace K := K.trans' k20 (fun i hi e => (lk16 i e).elim (fun h => .inr h) (fun h => absurd hi (Nat.not_lt.2 h)))
    clear hd11
    refine WL.op (d := 7) (.int .i64 (GDisk.flushE (GDisk.writeD d (at_ + (ln : Int)) (makeS l ep ln)))) (by as_aux_lemma => kernel_rfl) (by as_aux_lemma => kernel_rfl) (by as_aux_lemma => kernel_rfl) rfl (by as_aux_lemma => kernel_rfl) (k := ?_)
    refine WL.nil ?_
    refine WX.seqN ?_
    refine WC.seq ?_
    refine WC.seq ?_
    refine WC.region ?_
    refine WL.op (d := 62) (.int .i64 (GDisk.flushE (GDisk.writeD d (at_ + (ln : Int)) (makeS l ep ln)))) (by as_aux_lemma => kernel_rfl) (by as_aux_lemma => kernel_rfl) (by as_aux_lemma => kernel_rfl) rfl (by as_aux_lemma => kernel_rfl) (k := ?_)
    refine WL.op (d := 63) (.bool ((GDisk.flushE (GDisk.writeD d (at_ + (ln : Int)) (makeS l ep ln))) != 0)) (by as_aux_lemma => kernel_rfl) (by as_aux_lemma => kernel_rfl) (by as_aux_lemma => kernel_rfl) rfl (by as_aux_lemma => kernel_rfl) (k := ?_)
    refine WL.nil ?_
    refine WX.seqN ?_
    refine WC.cond (b := (GDisk.flushE (GDisk.writeD d (at_ + (ln : Int)) (makeS l ep ln))) != 0) (by as_aux_lemma => kernel_rfl) (ht := fun h25 => ?_) (hf := fun h25 => ?_)
    · have ph25 := bne_iff_ne.1 h25
      refine WC.seq ?_
      refine WC.region ?_
      refine WL.op (d := 64) (.pointer (some ⟨b, 0, none⟩)) (by as_aux_lemma => kernel_rfl) (by as_aux_lemma => kernel_rfl) (by as_aux_lemma => kernel_rfl) rfl (by as_aux_lemma => kernel_rfl) (k := ?_)
      refine WL.op (d := 65) (.pointer (some ⟨b, 0, none⟩)) (by as_aux_lemma => kernel_rfl) (by as_aux_lemma => kernel_rfl) (by as_aux_lemma => kernel_rfl) rfl (by as_aux_lemma => kernel_rfl) (k := ?_)
      refine WL.op (d := 66) (.pointer (some ⟨b, 3, none⟩)) (by as_aux_lemma => kernel_rfl) (by as_aux_lemma => kernel_rfl) (by as_aux_lemma => kernel_rfl) rfl (by as_aux_lemma => kernel_rfl) (k := ?_)
      refine WL.store (v := .bool false) (i := 3) (cs' := #[.pointer (some ⟨dk, 0, none⟩), .int .i64 at_, .int .i64 n, .bool false, .int .u64 ((ep : Nat) : Int), .int .i64 (ln : Int)]) hb (by as_aux_lemma => kernel_rfl) (by as_aux_lemma => kernel_rfl) (by as_aux_lemma => kernel_rfl) (by as_aux_lemma => kernel_rfl) (by as_aux_lemma => kernel_rfl) (by as_aux_lemma => kernel_rfl) (by as_aux_lemma => kernel_rfl) (k := fun w26 hb27 k28 => ?_)
      replace hd19 := hd19.keeps k28 (fun i hi e => n23 (e ▸ hi))
      replace K := K.trans' k28 (fun i hi e => .inl e)
      clear hb
      refine WL.nil ?_
      refine WX.seqN ?_
      refine WC.seq ?_
      refine WC.region ?_
      refine WL.op (d := 67) (.int .i64 (GDisk.flushE (GDisk.writeD d (at_ + (ln : Int)) (makeS l ep ln)))) (by as_aux_lemma => kernel_rfl) (by as_aux_lemma => kernel_rfl) (by as_aux_lemma => kernel_rfl) rfl (by as_aux_lemma => kernel_rfl) (k := ?_)
      refine WL.op (d := 4) (.int .i64 (GDisk.flushE (GDisk.writeD d (at_ + (ln : Int)) (makeS l ep ln)))) (by as_aux_lemma => kernel_rfl) (by as_aux_lemma => kernel_rfl) (by as_aux_lemma => kernel_rfl) rfl (by as_aux_lemma => kernel_rfl) (k := ?_)
      refine WL.nil ?_
      refine WX.seqN ?_
      refine WC.ret ?_
      refine WX.seqR ?_
      refine WX.ret (rs := [.tmp 4]) [.int .i64 (GDisk.flushE (GDisk.writeD d (at_ + (ln : Int)) (makeS l ep ln)))] (.int .i64 (GDisk.flushE (GDisk.writeD d (at_ + (ln : Int)) (makeS l ep ln)))) ⟨(by as_aux_lemma => kernel_rfl), trivial⟩ rfl rfl (k := ?_)
      obtain ⟨e1_, e2_⟩ := GDisk.wrs_ok (d := d) (a := (at_ + (ln : Int))) (x := (makeS l ep ln)) (by omega)
      have z_ : ¬ GDisk.wrsE d (at_ + (ln : Int)) (makeS l ep ln) = 0 := by rw [e1_]; omega
      exact ⟨by rw [e1_], by rw [decide_eq_false z_, if_neg z_]; exact hb27, _, by rw [e2_]; exact hd19, lk24, n23, K⟩
    · have ph25 := of_bne_false h25
      refine WC.skip ?_
      refine WX.seqN ?_
      refine WC.seq ?_
      refine WC.region ?_
      refine WL.op (d := 68) (.pointer (some ⟨b, 0, none⟩)) (by as_aux_lemma => kernel_rfl) (by as_aux_lemma => kernel_rfl) (by as_aux_lemma => kernel_rfl) rfl (by as_aux_lemma => kernel_rfl) (k := ?_)
      refine WL.op (d := 69) (.pointer (some ⟨b, 0, none⟩)) (by as_aux_lemma => kernel_rfl) (by as_aux_lemma => kernel_rfl) (by as_aux_lemma => kernel_rfl) rfl (by as_aux_lemma => kernel_rfl) (k := ?_)
      refine WL.op (d := 70) (.pointer (some ⟨b, 5, none⟩)) (by as_aux_lemma => kernel_rfl) (by as_aux_lemma => kernel_rfl) (by as_aux_lemma => kernel_rfl) rfl (by as_aux_lemma => kernel_rfl) (k := ?_)
      refine WL.load (v := .int .i64 (ln : Int)) (ld1 (T := 3) (i := 5) hb (by as_aux_lemma => kernel_rfl) (by as_aux_lemma => kernel_rfl)) (by as_aux_lemma => kernel_rfl) (by as_aux_lemma => kernel_rfl) (by as_aux_lemma => kernel_rfl) (k := ?_)
      refine WL.opE (d := 72) (.int .i64 (IntKind.i64.wrap ((ln : Int) + 1))) (v := .int .i64 ((ln : Int) + 1)) (congrArg (Value.int .i64) (IntWalk.i64_in _ (by omega))) (by as_aux_lemma => kernel_rfl) (by as_aux_lemma => kernel_rfl) (by as_aux_lemma => kernel_rfl) rfl (by as_aux_lemma => kernel_rfl) (k := ?_)
      refine WL.op (d := 73) (.pointer (some ⟨b, 0, none⟩)) (by as_aux_lemma => kernel_rfl) (by as_aux_lemma => kernel_rfl) (by as_aux_lemma => kernel_rfl) rfl (by as_aux_lemma => kernel_rfl) (k := ?_)
      refine WL.op (d := 74) (.pointer (some ⟨b, 5, none⟩)) (by as_aux_lemma => kernel_rfl) (by as_aux_lemma => kernel_rfl) (by as_aux_lemma => kernel_rfl) rfl (by as_aux_lemma => kernel_rfl) (k := ?_)
      refine WL.store (v := .int .i64 ((ln : Int) + 1)) (i := 5) (cs' := #[.pointer (some ⟨dk, 0, none⟩), .int .i64 at_, .int .i64 n, .bool true, .int .u64 ((ep : Nat) : Int), .int .i64 ((ln : Int) + 1)]) hb (by as_aux_lemma => kernel_rfl) (by as_aux_lemma => kernel_rfl) (by as_aux_lemma => kernel_rfl) (by as_aux_lemma => kernel_rfl) (by as_aux_lemma => kernel_rfl) (by as_aux_lemma => kernel_rfl) (by as_aux_lemma => kernel_rfl) (k := fun w29 hb30 k31 => ?_)
      replace hd19 := hd19.keeps k31 (fun i hi e => n23 (e ▸ hi))
      replace K := K.trans' k31 (fun i hi e => .inl e)
      clear hb
      refine WL.nil ?_
      refine WX.seqN ?_
      refine WC.seq ?_
      refine WC.region ?_
      refine WL.op (d := 4) (.int .i64 0) (by as_aux_lemma => kernel_rfl) (by as_aux_lemma => kernel_rfl) (by as_aux_lemma => kernel_rfl) rfl (by as_aux_lemma => kernel_rfl) (k := ?_)
      refine WL.nil ?_
      refine WX.seqN ?_
      refine WC.ret ?_
      refine WX.ret (rs := [.tmp 4]) [.int .i64 0] (.int .i64 0) ⟨(by as_aux_lemma => kernel_rfl), trivial⟩ rfl rfl (k := ?_)
      obtain ⟨e1_, e2_⟩ := GDisk.wrs_ok (d := d) (a := (at_ + (ln : Int))) (x := (makeS l ep ln)) (by omega)
      have z_ : GDisk.wrsE d (at_ + (ln : Int)) (makeS l ep ln) = 0 := by rw [e1_]; omega
      exact ⟨by rw [z_], by rw [decide_eq_true z_, if_pos z_]; exact hb30, _, by rw [e2_]; exact hd19, lk24, n23, K⟩
  · have ph17 := ne_of_beq_false h17
    refine WC.skip ?_
    refine WX.seqN ?_
    refine WC.seq ?_
    refine WC.seq ?_
    refine WC.region ?_
    refine WL.op (d := 62) (.int .i64 (GDisk.writeE d (at_ + (ln : Int)) (makeS l ep ln))) (by as_aux_lemma => kernel_rfl) (by as_aux_lemma => kernel_rfl) (by as_aux_lemma => kernel_rfl) rfl (by as_aux_lemma => kernel_rfl) (k := ?_)
    refine WL.op (d := 63) (.bool ((GDisk.writeE d (at_ + (ln : Int)) (makeS l ep ln)) != 0)) (by as_aux_lemma => kernel_rfl) (by as_aux_lemma => kernel_rfl) (by as_aux_lemma => kernel_rfl) rfl (by as_aux_lemma => kernel_rfl) (k := ?_)
    refine WL.nil ?_
    refine WX.seqN ?_
    refine WC.cond (b := (GDisk.writeE d (at_ + (ln : Int)) (makeS l ep ln)) != 0) (by as_aux_lemma => kernel_rfl) (ht := fun h32 => ?_) (hf := fun h32 => ?_)
    · have ph32 := bne_iff_ne.1 h32
      refine WC.seq ?_
      refine WC.region ?_
      refine WL.op (d := 64) (.pointer (some ⟨b, 0, none⟩)) (by as_aux_lemma => kernel_rfl) (by as_aux_lemma => kernel_rfl) (by as_aux_lemma => kernel_rfl) rfl (by as_aux_lemma => kernel_rfl) (k := ?_)
      refine WL.op (d := 65) (.pointer (some ⟨b, 0, none⟩)) (by as_aux_lemma => kernel_rfl) (by as_aux_lemma => kernel_rfl) (by as_aux_lemma => kernel_rfl) rfl (by as_aux_lemma => kernel_rfl) (k := ?_)
      refine WL.op (d := 66) (.pointer (some ⟨b, 3, none⟩)) (by as_aux_lemma => kernel_rfl) (by as_aux_lemma => kernel_rfl) (by as_aux_lemma => kernel_rfl) rfl (by as_aux_lemma => kernel_rfl) (k := ?_)
      refine WL.store (v := .bool false) (i := 3) (cs' := #[.pointer (some ⟨dk, 0, none⟩), .int .i64 at_, .int .i64 n, .bool false, .int .u64 ((ep : Nat) : Int), .int .i64 (ln : Int)]) hb (by as_aux_lemma => kernel_rfl) (by as_aux_lemma => kernel_rfl) (by as_aux_lemma => kernel_rfl) (by as_aux_lemma => kernel_rfl) (by as_aux_lemma => kernel_rfl) (by as_aux_lemma => kernel_rfl) (by as_aux_lemma => kernel_rfl) (k := fun w33 hb34 k35 => ?_)
      replace hd11 := hd11.keeps k35 (fun i hi e => n15 (e ▸ hi))
      replace K := K.trans' k35 (fun i hi e => .inl e)
      clear hb
      refine WL.nil ?_
      refine WX.seqN ?_
      refine WC.seq ?_
      refine WC.region ?_
      refine WL.op (d := 67) (.int .i64 (GDisk.writeE d (at_ + (ln : Int)) (makeS l ep ln))) (by as_aux_lemma => kernel_rfl) (by as_aux_lemma => kernel_rfl) (by as_aux_lemma => kernel_rfl) rfl (by as_aux_lemma => kernel_rfl) (k := ?_)
      refine WL.op (d := 4) (.int .i64 (GDisk.writeE d (at_ + (ln : Int)) (makeS l ep ln))) (by as_aux_lemma => kernel_rfl) (by as_aux_lemma => kernel_rfl) (by as_aux_lemma => kernel_rfl) rfl (by as_aux_lemma => kernel_rfl) (k := ?_)
      refine WL.nil ?_
      refine WX.seqN ?_
      refine WC.ret ?_
      refine WX.seqR ?_
      refine WX.ret (rs := [.tmp 4]) [.int .i64 (GDisk.writeE d (at_ + (ln : Int)) (makeS l ep ln))] (.int .i64 (GDisk.writeE d (at_ + (ln : Int)) (makeS l ep ln))) ⟨(by as_aux_lemma => kernel_rfl), trivial⟩ rfl rfl (k := ?_)
      obtain ⟨e1_, e2_⟩ := GDisk.wrs_no (d := d) (a := (at_ + (ln : Int))) (x := (makeS l ep ln)) (by omega)
      have z_ : ¬ GDisk.wrsE d (at_ + (ln : Int)) (makeS l ep ln) = 0 := by rw [e1_]; omega
      exact ⟨by rw [e1_], by rw [decide_eq_false z_, if_neg z_]; exact hb34, _, by rw [e2_]; exact hd11, lk16, n15, K⟩
    · have ph32 := of_bne_false h32
      refine WC.skip ?_
      refine WX.seqN ?_
      refine WC.seq ?_
      refine WC.region ?_
      refine WL.op (d := 68) (.pointer (some ⟨b, 0, none⟩)) (by as_aux_lemma => kernel_rfl) (by as_aux_lemma => kernel_rfl) (by as_aux_lemma => kernel_rfl) rfl (by as_aux_lemma => kernel_rfl) (k := ?_)
      refine WL.op (d := 69) (.pointer (some ⟨b, 0, none⟩)) (by as_aux_lemma => kernel_rfl) (by as_aux_lemma => kernel_rfl) (by as_aux_lemma => kernel_rfl) rfl (by as_aux_lemma => kernel_rfl) (k := ?_)
      refine WL.op (d := 70) (.pointer (some ⟨b, 5, none⟩)) (by as_aux_lemma => kernel_rfl) (by as_aux_lemma => kernel_rfl) (by as_aux_lemma => kernel_rfl) rfl (by as_aux_lemma => kernel_rfl) (k := ?_)
      refine WL.load (v := .int .i64 (ln : Int)) (ld1 (T := 3) (i := 5) hb (by as_aux_lemma => kernel_rfl) (by as_aux_lemma => kernel_rfl)) (by as_aux_lemma => kernel_rfl) (by as_aux_lemma => kernel_rfl) (by as_aux_lemma => kernel_rfl) (k := ?_)
      refine WL.opE (d := 72) (.int .i64 (IntKind.i64.wrap ((ln : Int) + 1))) (v := .int .i64 ((ln : Int) + 1)) (congrArg (Value.int .i64) (IntWalk.i64_in _ (by omega))) (by as_aux_lemma => kernel_rfl) (by as_aux_lemma => kernel_rfl) (by as_aux_lemma => kernel_rfl) rfl (by as_aux_lemma => kernel_rfl) (k := ?_)
      refine WL.op (d := 73) (.pointer (some ⟨b, 0, none⟩)) (by as_aux_lemma => kernel_rfl) (by as_aux_lemma => kernel_rfl) (by as_aux_lemma => kernel_rfl) rfl (by as_aux_lemma => kernel_rfl) (k := ?_)
      refine WL.op (d := 74) (.pointer (some ⟨b, 5, none⟩)) (by as_aux_lemma => kernel_rfl) (by as_aux_lemma => kernel_rfl) (by as_aux_lemma => kernel_rfl) rfl (by as_aux_lemma => kernel_rfl) (k := ?_)
      refine WL.store (v := .int .i64 ((ln : Int) + 1)) (i := 5) (cs' := #[.pointer (some ⟨dk, 0, none⟩), .int .i64 at_, .int .i64 n, .bool true, .int .u64 ((ep : Nat) : Int), .int .i64 ((ln : Int) + 1)]) hb (by as_aux_lemma => kernel_rfl) (by as_aux_lemma => kernel_rfl) (by as_aux_lemma => kernel_rfl) (by as_aux_lemma => kernel_rfl) (by as_aux_lemma => kernel_rfl) (by as_aux_lemma => kernel_rfl) (by as_aux_lemma => kernel_rfl) (k := fun w36 hb37 k38 => ?_)
      replace hd11 := hd11.keeps k38 (fun i hi e => n15 (e ▸ hi))
      replace K := K.trans' k38 (fun i hi e => .inl e)
      clear hb
      refine WL.nil ?_
      refine WX.seqN ?_
      refine WC.seq ?_
      refine WC.region ?_
      refine WL.op (d := 4) (.int .i64 0) (by as_aux_lemma => kernel_rfl) (by as_aux_lemma => kernel_rfl) (by as_aux_lemma => kernel_rfl) rfl (by as_aux_lemma => kernel_rfl) (k := ?_)
      refine WL.nil ?_
      refine WX.seqN ?_
      refine WC.ret ?_
      refine WX.ret (rs := [.tmp 4]) [.int .i64 0] (.int .i64 0) ⟨(by as_aux_lemma => kernel_rfl), trivial⟩ rfl rfl (k := ?_)
      exfalso; omega
set_option maxRecDepth 100000 in
set_option maxHeartbeats 4000000 in
theorem rlScan_ok {S : Nat → Prop} {b dk ep ln : Nat} {op : Bool} {d : GDisk} {at_ n : Int} {w : World} {e : Nat} (hb : w.heap[b]? = some (.cells #[.pointer (some ⟨dk, 0, none⟩), .int .i64 at_, .int .i64 n, .bool op, .int .u64 (ep : Int), .int .i64 (ln : Int)] 63 (0, 0))) (hd : RefAt S dk d w) (hnb : ¬ S b) (a0 : 0 ≤ at_) (a1 : at_ ≤ 1024) (n1 : n ≤ 1024) (he : ¬ e = 0) (he2 : e < 18446744073709551616) (hR : (scanGo at_ e n.toNat d []).2.1 = 0) : Calls Tryz.prog 10 #[.pointer (some ⟨b, 0, none⟩), .int .u64 (e : Int)] w fun e_ w' => ∃ A c, e_ = .returned (.tuple #[.slice A (scanGo at_ e n.toNat d []).1.length c, .int .i64 0]) ∧ w'.heap[b]? = some (.cells #[.pointer (some ⟨dk, 0, none⟩), .int .i64 at_, .int .i64 n, .bool true, .int .u64 (e : Int), .int .i64 ((scanGo at_ e n.toNat d []).1.length : Int)] 63 (0, 0)) ∧ OwAt strC 1 9 A c (scanGo at_ e n.toNat d []).1 w' ∧ (∀ i, blk A = some i → w.heap.size ≤ i) ∧ RefAt S dk (scanGo at_ e n.toNat d []).2.2 w' ∧ (∀ i, blk A = some i → ¬ S i) ∧ Keeps (fun k => k = b ∨ S k) w w' := by
  have K : Keeps (fun k => k = b ∨ S k) w w := Keeps.refl _ w
  have lk0 : ∀ k, S k → S k ∨ w.heap.size ≤ k := fun k h => .inl h
  have h1 : (((e : Nat) : Int) == 0) = false := beq_eq_false_iff_ne.2 (by omega)
  have ph1 := ne_of_beq_false h1
  refine Calls.start Tryz.func10 rfl (by as_aux_lemma => kernel_rfl) ?_
  refine WC.seq ?_
  refine WC.region ?_
  refine WL.op (d := 4) (.slice none 0 0) (by as_aux_lemma => kernel_rfl) (by as_aux_lemma => kernel_rfl) (by as_aux_lemma => kernel_rfl) rfl (by as_aux_lemma => kernel_rfl) (k := ?_)
  refine WL.op (d := 5) (.int .i64 0) (by as_aux_lemma => kernel_rfl) (by as_aux_lemma => kernel_rfl) (by as_aux_lemma => kernel_rfl) rfl (by as_aux_lemma => kernel_rfl) (k := ?_)
  refine WL.nil ?_
  refine WX.seqN ?_
  refine WC.seq ?_
  refine WC.seq ?_
  refine WC.region ?_
  refine WL.op (d := 13) (.int .u64 ((e : Nat) : Int)) (by as_aux_lemma => kernel_rfl) (by as_aux_lemma => kernel_rfl) (by as_aux_lemma => kernel_rfl) rfl (by as_aux_lemma => kernel_rfl) (k := ?_)
  refine WL.op (d := 14) (.bool (((e : Nat) : Int) == 0)) (by as_aux_lemma => kernel_rfl) (by as_aux_lemma => kernel_rfl) (by as_aux_lemma => kernel_rfl) rfl (by as_aux_lemma => kernel_rfl) (k := ?_)
  refine WL.nil ?_
  refine WX.seqN ?_
  refine WC.rw (t := 14) (v := .bool false) (congrArg Value.bool h1) (by as_aux_lemma => kernel_rfl) (k := ?_)
  refine WC.condF (by as_aux_lemma => kernel_rfl) (k := ?_)
  refine WC.skip ?_
  refine WX.seqN ?_
  refine WC.seq ?_
  refine WC.region ?_
  refine WL.op (d := 15) (.pointer (some ⟨b, 0, none⟩)) (by as_aux_lemma => kernel_rfl) (by as_aux_lemma => kernel_rfl) (by as_aux_lemma => kernel_rfl) rfl (by as_aux_lemma => kernel_rfl) (k := ?_)
  refine WL.op (d := 16) (.pointer (some ⟨b, 0, none⟩)) (by as_aux_lemma => kernel_rfl) (by as_aux_lemma => kernel_rfl) (by as_aux_lemma => kernel_rfl) rfl (by as_aux_lemma => kernel_rfl) (k := ?_)
  refine WL.op (d := 17) (.pointer (some ⟨b, 3, none⟩)) (by as_aux_lemma => kernel_rfl) (by as_aux_lemma => kernel_rfl) (by as_aux_lemma => kernel_rfl) rfl (by as_aux_lemma => kernel_rfl) (k := ?_)
  refine WL.store (v := .bool false) (i := 3) (cs' := #[.pointer (some ⟨dk, 0, none⟩), .int .i64 at_, .int .i64 n, .bool false, .int .u64 ((ep : Nat) : Int), .int .i64 (ln : Int)]) hb (by as_aux_lemma => kernel_rfl) (by as_aux_lemma => kernel_rfl) (by as_aux_lemma => kernel_rfl) (by as_aux_lemma => kernel_rfl) (by as_aux_lemma => kernel_rfl) (by as_aux_lemma => kernel_rfl) (by as_aux_lemma => kernel_rfl) (k := fun w2 hb3 k4 => ?_)
  replace hd := hd.keeps k4 (fun i hi e => hnb (e ▸ hi))
  replace K := K.trans' k4 (fun i hi e => .inl e)
  clear hb
  refine WL.nil ?_
  refine WX.seqN ?_
  refine WC.seq ?_
  refine WC.region ?_
  refine WL.op (d := 6) (.slice none 0 0) (by as_aux_lemma => kernel_rfl) (by as_aux_lemma => kernel_rfl) (by as_aux_lemma => kernel_rfl) rfl (by as_aux_lemma => kernel_rfl) (k := ?_)
  refine WL.nil ?_
  refine WX.seqN ?_
  refine WC.seq ?_
  refine WC.seq ?_
  refine WC.region ?_
  refine WL.op (d := 7) (.int .i64 0) (by as_aux_lemma => kernel_rfl) (by as_aux_lemma => kernel_rfl) (by as_aux_lemma => kernel_rfl) rfl (by as_aux_lemma => kernel_rfl) (k := ?_)
  refine WL.nil ?_
  refine WX.seqN ?_
  refine WC.block ?_
  refine WC.rw (t := 7) (v := .int .i64 (([] : List (List UInt8)).length : Int)) (rfl) (by as_aux_lemma => kernel_rfl) (k := ?_)
  refine WC.loop (ι := (List (List UInt8)) × (Option Addr) × Nat × GDisk) (fun (⟨out, Ao, co, di⟩ : (List (List UInt8)) × (Option Addr) × Nat × GDisk) => [(0, .pointer (some ⟨b, 0, none⟩)), (1, .int .u64 ((e : Nat) : Int)), (13, .int .u64 ((e : Nat) : Int)), (14, .bool false), (15, .pointer (some ⟨b, 0, none⟩)), (16, .pointer (some ⟨b, 0, none⟩)), (17, .pointer (some ⟨b, 3, none⟩)), (7, .int .i64 (out.length : Int)), (6, .slice Ao out.length co)]) (fun (⟨out, Ao, co, di⟩ : (List (List UInt8)) × (Option Addr) × Nat × GDisk) (w_ : World) => (Keeps (fun k => k = b ∨ S k) w w_) ∧ (w_.heap[b]? = some (.cells #[.pointer (some ⟨dk, 0, none⟩), .int .i64 at_, .int .i64 n, .bool false, .int .u64 ((ep : Nat) : Int), .int .i64 (ln : Int)] 63 (0, 0))) ∧ (RefAt S dk di w_) ∧ (∀ k, S k → S k ∨ w.heap.size ≤ k) ∧ (¬ S b) ∧ (∀ i, blk Ao = some i → ¬ S i) ∧ (OwAt strC 1 9 Ao co out w_) ∧ (∀ i, blk Ao = some i → w.heap.size ≤ i) ∧ (scanGo at_ e n.toNat d [] = scanGo at_ e (n.toNat - out.length) di out) ∧ (out.length ≤ n.toNat)) (fun (⟨out, Ao, co, di⟩ : (List (List UInt8)) × (Option Addr) × Nat × GDisk) => (n.toNat - List.length out)) ([], none, 0, d) ⟨(by as_aux_lemma => kernel_rfl), (by as_aux_lemma => kernel_rfl), (by as_aux_lemma => kernel_rfl), (by as_aux_lemma => kernel_rfl), (by as_aux_lemma => kernel_rfl), (by as_aux_lemma => kernel_rfl), (by as_aux_lemma => kernel_rfl), (by as_aux_lemma => kernel_rfl), (by as_aux_lemma => kernel_rfl), trivial⟩ ⟨K, hb3, hd, lk0, hnb, (fun i hi => by simp [blk] at hi), OwAt.nil, (by simp [blk]), rfl, (Nat.zero_le _)⟩ ?_
  rintro ⟨out, Ao, co, di⟩ w5 ⟨K, hb6, hb7, lk8, n9, n10, hb11, ol12, hg, lo⟩
  refine WC.seq ?_
  refine WC.seq ?_
  refine WC.region ?_
  refine WL.op (d := 18) (.int .i64 (out.length : Int)) (by as_aux_lemma => kernel_rfl) (by as_aux_lemma => kernel_rfl) (by as_aux_lemma => kernel_rfl) rfl (by as_aux_lemma => kernel_rfl) (k := ?_)
  refine WL.op (d := 19) (.pointer (some ⟨b, 0, none⟩)) (by as_aux_lemma => kernel_rfl) (by as_aux_lemma => kernel_rfl) (by as_aux_lemma => kernel_rfl) rfl (by as_aux_lemma => kernel_rfl) (k := ?_)
  refine WL.op (d := 20) (.pointer (some ⟨b, 0, none⟩)) (by as_aux_lemma => kernel_rfl) (by as_aux_lemma => kernel_rfl) (by as_aux_lemma => kernel_rfl) rfl (by as_aux_lemma => kernel_rfl) (k := ?_)
  refine WL.op (d := 21) (.pointer (some ⟨b, 2, none⟩)) (by as_aux_lemma => kernel_rfl) (by as_aux_lemma => kernel_rfl) (by as_aux_lemma => kernel_rfl) rfl (by as_aux_lemma => kernel_rfl) (k := ?_)
  refine WL.load (v := .int .i64 n) (ld1 (T := 3) (i := 2) hb6 (by as_aux_lemma => kernel_rfl) (by as_aux_lemma => kernel_rfl)) (by as_aux_lemma => kernel_rfl) (by as_aux_lemma => kernel_rfl) (by as_aux_lemma => kernel_rfl) (k := ?_)
  refine WL.op (d := 23) (.bool (decide ((out.length : Int) < n))) (by as_aux_lemma => kernel_rfl) (by as_aux_lemma => kernel_rfl) (by as_aux_lemma => kernel_rfl) rfl (by as_aux_lemma => kernel_rfl) (k := ?_)
  refine WL.nil ?_
  refine WX.seqN ?_
  refine WC.cond (b := decide ((out.length : Int) < n)) (by as_aux_lemma => kernel_rfl) (ht := fun h13 => ?_) (hf := fun h13 => ?_)
  · have ph13 := of_decide_eq_true h13
    refine WC.skip ?_
    refine WX.seqN ?_
    refine WC.seq ?_
    refine WC.block ?_
    refine WC.seq ?_
    refine WC.mixed (fun k => S k) 15 (k := fun w14 k15 => ?_)
    replace hb6 := k15.heap hb6 id
    replace hb7 := hb7.adds k15
    replace hb11 := hb11.adds k15
    replace K := K.trans (k15.any _)
    have KC := Keeps.refl (fun k => S k) w14
    have bh16 := hb6
    have Kb := K
    refine WA.quiet 0 (d := 27) (.pointer (some ⟨b, 0, none⟩)) KC (hi := rfl) (hs := by as_aux_lemma => kernel_rfl) (hf := by as_aux_lemma => kernel_rfl) (hw := by as_aux_lemma => kernel_rfl) (hd := by as_aux_lemma => kernel_rfl) (hn := by as_aux_lemma => kernel_rfl) (ho := by as_aux_lemma => kernel_rfl) (hr := by as_aux_lemma => intro _ _; kernel_rfl) (k := ?_)
    refine WA.quiet 1 (d := 28) (.pointer (some ⟨b, 0, none⟩)) KC (hi := rfl) (hs := by as_aux_lemma => kernel_rfl) (hf := by as_aux_lemma => kernel_rfl) (hw := by as_aux_lemma => kernel_rfl) (hd := by as_aux_lemma => kernel_rfl) (hn := by as_aux_lemma => kernel_rfl) (ho := by as_aux_lemma => kernel_rfl) (hr := by as_aux_lemma => intro _ _; kernel_rfl) (k := ?_)
    refine WA.quiet 2 (d := 29) (.pointer (some ⟨b, 0, none⟩)) KC (hi := rfl) (hs := by as_aux_lemma => kernel_rfl) (hf := by as_aux_lemma => kernel_rfl) (hw := by as_aux_lemma => kernel_rfl) (hd := by as_aux_lemma => kernel_rfl) (hn := by as_aux_lemma => kernel_rfl) (ho := by as_aux_lemma => kernel_rfl) (hr := by as_aux_lemma => intro _ _; kernel_rfl) (k := ?_)
    refine WA.quietR 3 (d := 30) (.pointer (some ⟨dk, 0, none⟩)) KC (exec_load (fun w_ k_ => ld1 (T := 28) (i := 0) (k_.heap bh16 n9) (by as_aux_lemma => kernel_rfl) (by as_aux_lemma => kernel_rfl))) (hi := rfl) (hs := by as_aux_lemma => kernel_rfl) (hf := by as_aux_lemma => kernel_rfl) (hw := by as_aux_lemma => kernel_rfl) (hd := by as_aux_lemma => kernel_rfl) (hn := by as_aux_lemma => kernel_rfl) (k := ?_)
    refine WA.quiet 4 (d := 31) (.pointer (some ⟨b, 0, none⟩)) KC (hi := rfl) (hs := by as_aux_lemma => kernel_rfl) (hf := by as_aux_lemma => kernel_rfl) (hw := by as_aux_lemma => kernel_rfl) (hd := by as_aux_lemma => kernel_rfl) (hn := by as_aux_lemma => kernel_rfl) (ho := by as_aux_lemma => kernel_rfl) (hr := by as_aux_lemma => intro _ _; kernel_rfl) (k := ?_)
    refine WA.quiet 5 (d := 32) (.pointer (some ⟨b, 0, none⟩)) KC (hi := rfl) (hs := by as_aux_lemma => kernel_rfl) (hf := by as_aux_lemma => kernel_rfl) (hw := by as_aux_lemma => kernel_rfl) (hd := by as_aux_lemma => kernel_rfl) (hn := by as_aux_lemma => kernel_rfl) (ho := by as_aux_lemma => kernel_rfl) (hr := by as_aux_lemma => intro _ _; kernel_rfl) (k := ?_)
    refine WA.quiet 6 (d := 33) (.pointer (some ⟨b, 1, none⟩)) KC (hi := rfl) (hs := by as_aux_lemma => kernel_rfl) (hf := by as_aux_lemma => kernel_rfl) (hw := by as_aux_lemma => kernel_rfl) (hd := by as_aux_lemma => kernel_rfl) (hn := by as_aux_lemma => kernel_rfl) (ho := by as_aux_lemma => kernel_rfl) (hr := by as_aux_lemma => intro _ _; kernel_rfl) (k := ?_)
    refine WA.quietR 7 (d := 34) (.int .i64 at_) KC (exec_load (fun w_ k_ => ld1 (T := 3) (i := 1) (k_.heap bh16 n9) (by as_aux_lemma => kernel_rfl) (by as_aux_lemma => kernel_rfl))) (hi := rfl) (hs := by as_aux_lemma => kernel_rfl) (hf := by as_aux_lemma => kernel_rfl) (hw := by as_aux_lemma => kernel_rfl) (hd := by as_aux_lemma => kernel_rfl) (hn := by as_aux_lemma => kernel_rfl) (k := ?_)
    refine WA.quiet 8 (d := 35) (.int .i64 (out.length : Int)) KC (hi := rfl) (hs := by as_aux_lemma => kernel_rfl) (hf := by as_aux_lemma => kernel_rfl) (hw := by as_aux_lemma => kernel_rfl) (hd := by as_aux_lemma => kernel_rfl) (hn := by as_aux_lemma => kernel_rfl) (ho := by as_aux_lemma => kernel_rfl) (hr := by as_aux_lemma => intro _ _; kernel_rfl) (k := ?_)
    refine WA.quiet 9 (d := 36) (.int .i64 (IntKind.i64.wrap (at_ + (out.length : Int)))) KC (hi := rfl) (hs := by as_aux_lemma => kernel_rfl) (hf := by as_aux_lemma => kernel_rfl) (hw := by as_aux_lemma => kernel_rfl) (hd := by as_aux_lemma => kernel_rfl) (hn := by as_aux_lemma => kernel_rfl) (ho := by as_aux_lemma => kernel_rfl) (hr := by as_aux_lemma => intro _ _; kernel_rfl) (k := ?_)
    refine WA.rw (t := 36) (v := .int .i64 (at_ + (out.length : Int))) (congrArg (Value.int .i64) (IntWalk.i64_in _ (by omega))) (k := ?_)
    refine WA.step 10 (hi := rfl) (k := ?_)
    have tl17 := readT_len hb7.ok (at_ + (out.length : Int))
    refine WL.callG (d := 37) (f := 30) (args := #[.pointer (some ⟨dk, 0, none⟩), .int .i64 (at_ + (out.length : Int))]) (rdRead_c (a := at_ + (out.length : Int)) hb7) (by as_aux_lemma => kernel_rfl) (by as_aux_lemma => kernel_rfl) (by as_aux_lemma => kernel_rfl) rfl (by as_aux_lemma => kernel_rfl) (k := fun e_ w18 h_ => ?_)
    obtain ⟨rfl, hd19, k20⟩ := h_
    refine ⟨_, rfl, ?_⟩
    replace hb6 := k20.heap hb6 n9
    replace hb11 := hb11.keeps k20 n10
    replace K := K.trans' k20 (fun i hi e => (lk8 i e).elim (fun h => .inr h) (fun h => absurd hi (Nat.not_lt.2 h)))
    replace KC := KC.trans' k20 (fun i hi e => e)
    clear hb7
    refine WL.nil ?_
    refine WX.nxt KC ?_
    refine WA.quiet 11 (d := 26) (.tuple #[.string ⟨(GDisk.readT di (at_ + (out.length : Int))).toArray⟩, .int .i64 (GDisk.readE di (at_ + (out.length : Int)))]) KC (hi := rfl) (hs := by as_aux_lemma => kernel_rfl) (hf := by as_aux_lemma => kernel_rfl) (hw := by as_aux_lemma => kernel_rfl) (hd := by as_aux_lemma => kernel_rfl) (hn := by as_aux_lemma => kernel_rfl) (ho := by as_aux_lemma => kernel_rfl) (hr := by as_aux_lemma => intro _ _; kernel_rfl) (k := ?_)
    refine WA.quiet 12 (d := 38) (.string ⟨(GDisk.readT di (at_ + (out.length : Int))).toArray⟩) KC (hi := rfl) (hs := by as_aux_lemma => kernel_rfl) (hf := by as_aux_lemma => kernel_rfl) (hw := by as_aux_lemma => kernel_rfl) (hd := by as_aux_lemma => kernel_rfl) (hn := by as_aux_lemma => kernel_rfl) (ho := by as_aux_lemma => kernel_rfl) (hr := by as_aux_lemma => intro _ _; kernel_rfl) (k := ?_)
    refine WA.quiet 13 (d := 39) (.int .i64 (GDisk.readE di (at_ + (out.length : Int)))) KC (hi := rfl) (hs := by as_aux_lemma => kernel_rfl) (hf := by as_aux_lemma => kernel_rfl) (hw := by as_aux_lemma => kernel_rfl) (hd := by as_aux_lemma => kernel_rfl) (hn := by as_aux_lemma => kernel_rfl) (ho := by as_aux_lemma => kernel_rfl) (hr := by as_aux_lemma => intro _ _; kernel_rfl) (k := ?_)
    refine WA.quiet 14 (d := 8) (.string ⟨(GDisk.readT di (at_ + (out.length : Int))).toArray⟩) KC (hi := rfl) (hs := by as_aux_lemma => kernel_rfl) (hf := by as_aux_lemma => kernel_rfl) (hw := by as_aux_lemma => kernel_rfl) (hd := by as_aux_lemma => kernel_rfl) (hn := by as_aux_lemma => kernel_rfl) (ho := by as_aux_lemma => kernel_rfl) (hr := by as_aux_lemma => intro _ _; kernel_rfl) (k := ?_)
    refine WA.step 15 (hi := rfl) (k := ?_)
    refine WL.op (d := 9) (.int .i64 (GDisk.readE di (at_ + (out.length : Int)))) (by as_aux_lemma => kernel_rfl) (by as_aux_lemma => kernel_rfl) (by as_aux_lemma => kernel_rfl) rfl (by as_aux_lemma => kernel_rfl) (k := ?_)
    refine WL.nil ?_
    refine WX.nxtL ?_
    refine WA.done (k := ?_)
    clear KC
    refine WX.seqN ?_
    refine WC.seq ?_
    refine WC.seq ?_
    refine WC.region ?_
    refine WL.op (d := 40) (.int .i64 (GDisk.readE di (at_ + (out.length : Int)))) (by as_aux_lemma => kernel_rfl) (by as_aux_lemma => kernel_rfl) (by as_aux_lemma => kernel_rfl) rfl (by as_aux_lemma => kernel_rfl) (k := ?_)
    refine WL.op (d := 41) (.bool ((GDisk.readE di (at_ + (out.length : Int))) != 0)) (by as_aux_lemma => kernel_rfl) (by as_aux_lemma => kernel_rfl) (by as_aux_lemma => kernel_rfl) rfl (by as_aux_lemma => kernel_rfl) (k := ?_)
    refine WL.nil ?_
    refine WX.seqN ?_
    refine WC.cond (b := (GDisk.readE di (at_ + (out.length : Int))) != 0) (by as_aux_lemma => kernel_rfl) (ht := fun h21 => ?_) (hf := fun h21 => ?_)
    · have ph21 := bne_iff_ne.1 h21
      refine WC.seq ?_
      refine WC.region ?_
      refine WL.op (d := 42) (.int .i64 (GDisk.readE di (at_ + (out.length : Int)))) (by as_aux_lemma => kernel_rfl) (by as_aux_lemma => kernel_rfl) (by as_aux_lemma => kernel_rfl) rfl (by as_aux_lemma => kernel_rfl) (k := ?_)
      refine WL.op (d := 4) (.slice none 0 0) (by as_aux_lemma => kernel_rfl) (by as_aux_lemma => kernel_rfl) (by as_aux_lemma => kernel_rfl) rfl (by as_aux_lemma => kernel_rfl) (k := ?_)
      refine WL.op (d := 5) (.int .i64 (GDisk.readE di (at_ + (out.length : Int)))) (by as_aux_lemma => kernel_rfl) (by as_aux_lemma => kernel_rfl) (by as_aux_lemma => kernel_rfl) rfl (by as_aux_lemma => kernel_rfl) (k := ?_)
      refine WL.nil ?_
      refine WX.seqN ?_
      refine WC.ret ?_
      refine WX.seqR ?_
      refine WX.blockR ?_
      refine WX.seqR ?_
      refine WX.seqR ?_
      refine WX.blockR ?_
      refine WX.seqR ?_
      refine WX.ret (rs := [.tmp 4, .tmp 5]) [.slice none 0 0, .int .i64 (GDisk.readE di (at_ + (out.length : Int)))] (.tuple #[.slice none 0 0, .int .i64 (GDisk.readE di (at_ + (out.length : Int)))]) ⟨(by as_aux_lemma => kernel_rfl), (by as_aux_lemma => kernel_rfl), trivial⟩ rfl rfl (k := ?_)
      have e_ := scan_stop hg (by omega) (fun k_ => ph21 k_.1)
      rw [e_] at hR
      exact absurd hR ph21
    · have ph21 := of_bne_false h21
      refine WC.skip ?_
      refine WX.seqN ?_
      refine WC.seq ?_
      refine WC.region ?_
      refine WL.op (d := 43) (.string ⟨(GDisk.readT di (at_ + (out.length : Int))).toArray⟩) (by as_aux_lemma => kernel_rfl) (by as_aux_lemma => kernel_rfl) (by as_aux_lemma => kernel_rfl) rfl (by as_aux_lemma => kernel_rfl) (k := ?_)
      refine WL.op (d := 44) (.int .u64 ((e : Nat) : Int)) (by as_aux_lemma => kernel_rfl) (by as_aux_lemma => kernel_rfl) (by as_aux_lemma => kernel_rfl) rfl (by as_aux_lemma => kernel_rfl) (k := ?_)
      refine WL.op (d := 45) (.int .i64 (out.length : Int)) (by as_aux_lemma => kernel_rfl) (by as_aux_lemma => kernel_rfl) (by as_aux_lemma => kernel_rfl) rfl (by as_aux_lemma => kernel_rfl) (k := ?_)
      refine WL.opE (d := 46) (.int .u64 (IntKind.u64.wrap (out.length : Int))) (v := .int .u64 (((out.length : Int).toNat : Nat) : Int)) (congrArg (Value.int .u64) (by rw [IntWalk.u64_in _ (by omega)]; omega)) (by as_aux_lemma => kernel_rfl) (by as_aux_lemma => kernel_rfl) (by as_aux_lemma => kernel_rfl) rfl (by as_aux_lemma => kernel_rfl) (k := ?_)
      refine WL.callG (d := 47) (f := 31) (args := #[.string ⟨(GDisk.readT di (at_ + (out.length : Int))).toArray⟩, .int .u64 ((e : Nat) : Int), .int .u64 (((out.length : Int).toNat : Nat) : Int)]) (u04Whole_c (l := GDisk.readT di (at_ + (out.length : Int))) (e := e) (n := (out.length : Int).toNat) (by show List.length (GDisk.readT di (at_ + (out.length : Int))) ≤ _; first | omega | (simp; done) | (simp; omega)) w18) (by as_aux_lemma => kernel_rfl) (by as_aux_lemma => kernel_rfl) (by as_aux_lemma => kernel_rfl) rfl (by as_aux_lemma => kernel_rfl) (k := fun e_ w22 h_ => ⟨.bool (decide (isCell (GDisk.readT di (at_ + (out.length : Int))) ∧ rdE (GDisk.readT di (at_ + (out.length : Int))) = e ∧ rdN (GDisk.readT di (at_ + (out.length : Int))) = (out.length : Int).toNat)), h_.1, ?_⟩)
      have k23 := h_.2; clear h_
      replace hb6 := k23.heap hb6 id
      replace hd19 := hd19.adds k23
      replace hb11 := hb11.adds k23
      replace K := K.trans (k23.any _)
      refine WL.op (d := 10) (.bool (decide (isCell (GDisk.readT di (at_ + (out.length : Int))) ∧ rdE (GDisk.readT di (at_ + (out.length : Int))) = e ∧ rdN (GDisk.readT di (at_ + (out.length : Int))) = (out.length : Int).toNat))) (by as_aux_lemma => kernel_rfl) (by as_aux_lemma => kernel_rfl) (by as_aux_lemma => kernel_rfl) rfl (by as_aux_lemma => kernel_rfl) (k := ?_)
      refine WL.nil ?_
      refine WX.seqN ?_
      refine WC.seq ?_
      refine WC.seq ?_
      refine WC.region ?_
      refine WL.op (d := 48) (.bool (decide (isCell (GDisk.readT di (at_ + (out.length : Int))) ∧ rdE (GDisk.readT di (at_ + (out.length : Int))) = e ∧ rdN (GDisk.readT di (at_ + (out.length : Int))) = (out.length : Int).toNat))) (by as_aux_lemma => kernel_rfl) (by as_aux_lemma => kernel_rfl) (by as_aux_lemma => kernel_rfl) rfl (by as_aux_lemma => kernel_rfl) (k := ?_)
      refine WL.op (d := 49) (.bool (!(decide (isCell (GDisk.readT di (at_ + (out.length : Int))) ∧ rdE (GDisk.readT di (at_ + (out.length : Int))) = e ∧ rdN (GDisk.readT di (at_ + (out.length : Int))) = (out.length : Int).toNat)))) (by as_aux_lemma => kernel_rfl) (by as_aux_lemma => kernel_rfl) (by as_aux_lemma => kernel_rfl) rfl (by as_aux_lemma => kernel_rfl) (k := ?_)
      refine WL.nil ?_
      refine WX.seqN ?_
      refine WC.cond (b := !(decide (isCell (GDisk.readT di (at_ + (out.length : Int))) ∧ rdE (GDisk.readT di (at_ + (out.length : Int))) = e ∧ rdN (GDisk.readT di (at_ + (out.length : Int))) = (out.length : Int).toNat))) (by as_aux_lemma => kernel_rfl) (ht := fun h24 => ?_) (hf := fun h24 => ?_)
      · have h25 : (decide (isCell (GDisk.readT di (at_ + (out.length : Int))) ∧ rdE (GDisk.readT di (at_ + (out.length : Int))) = e ∧ rdN (GDisk.readT di (at_ + (out.length : Int))) = (out.length : Int).toNat)) = false := Bool.not_inj (y := false) h24
        have ph25 := of_decide_eq_false h25
        refine WC.exit ?_
        refine WX.seqE ?_
        refine WX.blockO (by as_aux_lemma => kernel_rfl) ?_
        refine WX.seqE ?_
        refine WX.seqE ?_
        refine WX.blockE ?_
        refine WX.seqN ?_
        refine WC.seq ?_
        refine WC.region ?_
        refine WL.op (d := 60) (.pointer (some ⟨b, 0, none⟩)) (by as_aux_lemma => kernel_rfl) (by as_aux_lemma => kernel_rfl) (by as_aux_lemma => kernel_rfl) rfl (by as_aux_lemma => kernel_rfl) (k := ?_)
        refine WL.op (d := 61) (.pointer (some ⟨b, 0, none⟩)) (by as_aux_lemma => kernel_rfl) (by as_aux_lemma => kernel_rfl) (by as_aux_lemma => kernel_rfl) rfl (by as_aux_lemma => kernel_rfl) (k := ?_)
        refine WL.op (d := 62) (.pointer (some ⟨b, 3, none⟩)) (by as_aux_lemma => kernel_rfl) (by as_aux_lemma => kernel_rfl) (by as_aux_lemma => kernel_rfl) rfl (by as_aux_lemma => kernel_rfl) (k := ?_)
        refine WL.store (v := .bool true) (i := 3) (cs' := #[.pointer (some ⟨dk, 0, none⟩), .int .i64 at_, .int .i64 n, .bool true, .int .u64 ((ep : Nat) : Int), .int .i64 (ln : Int)]) hb6 (by as_aux_lemma => kernel_rfl) (by as_aux_lemma => kernel_rfl) (by as_aux_lemma => kernel_rfl) (by as_aux_lemma => kernel_rfl) (by as_aux_lemma => kernel_rfl) (by as_aux_lemma => kernel_rfl) (by as_aux_lemma => kernel_rfl) (k := fun w26 hb27 k28 => ?_)
        replace hd19 := hd19.keeps k28 (fun i hi e => n9 (e ▸ hi))
        replace hb11 := hb11.keeps k28 (fun i hi e => (hb11.offT hb6 (by decide)) (e ▸ hi))
        replace K := K.trans' k28 (fun i hi e => .inl e)
        clear hb6
        refine WL.nil ?_
        refine WX.seqN ?_
        refine WC.seq ?_
        refine WC.region ?_
        refine WL.op (d := 63) (.pointer (some ⟨b, 0, none⟩)) (by as_aux_lemma => kernel_rfl) (by as_aux_lemma => kernel_rfl) (by as_aux_lemma => kernel_rfl) rfl (by as_aux_lemma => kernel_rfl) (k := ?_)
        refine WL.op (d := 64) (.int .u64 ((e : Nat) : Int)) (by as_aux_lemma => kernel_rfl) (by as_aux_lemma => kernel_rfl) (by as_aux_lemma => kernel_rfl) rfl (by as_aux_lemma => kernel_rfl) (k := ?_)
        refine WL.op (d := 65) (.pointer (some ⟨b, 0, none⟩)) (by as_aux_lemma => kernel_rfl) (by as_aux_lemma => kernel_rfl) (by as_aux_lemma => kernel_rfl) rfl (by as_aux_lemma => kernel_rfl) (k := ?_)
        refine WL.op (d := 66) (.pointer (some ⟨b, 4, none⟩)) (by as_aux_lemma => kernel_rfl) (by as_aux_lemma => kernel_rfl) (by as_aux_lemma => kernel_rfl) rfl (by as_aux_lemma => kernel_rfl) (k := ?_)
        refine WL.store (v := .int .u64 ((e : Nat) : Int)) (i := 4) (cs' := #[.pointer (some ⟨dk, 0, none⟩), .int .i64 at_, .int .i64 n, .bool true, .int .u64 ((e : Nat) : Int), .int .i64 (ln : Int)]) hb27 (by as_aux_lemma => kernel_rfl) (by as_aux_lemma => kernel_rfl) (by as_aux_lemma => kernel_rfl) (by as_aux_lemma => kernel_rfl) (by as_aux_lemma => kernel_rfl) (by as_aux_lemma => kernel_rfl) (by as_aux_lemma => kernel_rfl) (k := fun w29 hb30 k31 => ?_)
        replace hd19 := hd19.keeps k31 (fun i hi e => n9 (e ▸ hi))
        replace hb11 := hb11.keeps k31 (fun i hi e => (hb11.offT hb27 (by decide)) (e ▸ hi))
        replace K := K.trans' k31 (fun i hi e => .inl e)
        clear hb27
        refine WL.nil ?_
        refine WX.seqN ?_
        refine WC.seq ?_
        refine WC.region ?_
        refine WL.op (d := 67) (.pointer (some ⟨b, 0, none⟩)) (by as_aux_lemma => kernel_rfl) (by as_aux_lemma => kernel_rfl) (by as_aux_lemma => kernel_rfl) rfl (by as_aux_lemma => kernel_rfl) (k := ?_)
        refine WL.op (d := 68) (.slice Ao out.length co) (by as_aux_lemma => kernel_rfl) (by as_aux_lemma => kernel_rfl) (by as_aux_lemma => kernel_rfl) rfl (by as_aux_lemma => kernel_rfl) (k := ?_)
        refine WL.op (d := 69) (.int .i64 (out.length : Int)) (by as_aux_lemma => kernel_rfl) (by as_aux_lemma => kernel_rfl) (by as_aux_lemma => kernel_rfl) rfl (by as_aux_lemma => kernel_rfl) (k := ?_)
        refine WL.op (d := 70) (.pointer (some ⟨b, 0, none⟩)) (by as_aux_lemma => kernel_rfl) (by as_aux_lemma => kernel_rfl) (by as_aux_lemma => kernel_rfl) rfl (by as_aux_lemma => kernel_rfl) (k := ?_)
        refine WL.op (d := 71) (.pointer (some ⟨b, 5, none⟩)) (by as_aux_lemma => kernel_rfl) (by as_aux_lemma => kernel_rfl) (by as_aux_lemma => kernel_rfl) rfl (by as_aux_lemma => kernel_rfl) (k := ?_)
        refine WL.store (v := .int .i64 (out.length : Int)) (i := 5) (cs' := #[.pointer (some ⟨dk, 0, none⟩), .int .i64 at_, .int .i64 n, .bool true, .int .u64 ((e : Nat) : Int), .int .i64 (out.length : Int)]) hb30 (by as_aux_lemma => kernel_rfl) (by as_aux_lemma => kernel_rfl) (by as_aux_lemma => kernel_rfl) (by as_aux_lemma => kernel_rfl) (by as_aux_lemma => kernel_rfl) (by as_aux_lemma => kernel_rfl) (by as_aux_lemma => kernel_rfl) (k := fun w32 hb33 k34 => ?_)
        replace hd19 := hd19.keeps k34 (fun i hi e => n9 (e ▸ hi))
        replace hb11 := hb11.keeps k34 (fun i hi e => (hb11.offT hb30 (by decide)) (e ▸ hi))
        replace K := K.trans' k34 (fun i hi e => .inl e)
        clear hb30
        refine WL.nil ?_
        refine WX.seqN ?_
        refine WC.seq ?_
        refine WC.region ?_
        refine WL.op (d := 72) (.slice Ao out.length co) (by as_aux_lemma => kernel_rfl) (by as_aux_lemma => kernel_rfl) (by as_aux_lemma => kernel_rfl) rfl (by as_aux_lemma => kernel_rfl) (k := ?_)
        refine WL.op (d := 4) (.slice Ao out.length co) (by as_aux_lemma => kernel_rfl) (by as_aux_lemma => kernel_rfl) (by as_aux_lemma => kernel_rfl) rfl (by as_aux_lemma => kernel_rfl) (k := ?_)
        refine WL.op (d := 5) (.int .i64 0) (by as_aux_lemma => kernel_rfl) (by as_aux_lemma => kernel_rfl) (by as_aux_lemma => kernel_rfl) rfl (by as_aux_lemma => kernel_rfl) (k := ?_)
        refine WL.nil ?_
        refine WX.seqN ?_
        refine WC.ret ?_
        refine WX.ret (rs := [.tmp 4, .tmp 5]) [.slice Ao out.length co, .int .i64 0] (.tuple #[.slice Ao out.length co, .int .i64 0]) ⟨(by as_aux_lemma => kernel_rfl), (by as_aux_lemma => kernel_rfl), trivial⟩ rfl rfl (k := ?_)
        have e_ := scan_stop hg (by omega) (fun k_ => ph25 k_.2)
        rw [e_]
        exact ⟨_, _, rfl, hb33, hb11, ol12, hd19, n10, K⟩
      · have h35 : (decide (isCell (GDisk.readT di (at_ + (out.length : Int))) ∧ rdE (GDisk.readT di (at_ + (out.length : Int))) = e ∧ rdN (GDisk.readT di (at_ + (out.length : Int))) = (out.length : Int).toNat)) = true := Bool.not_inj (y := true) h24
        have ph35 := of_decide_eq_true h35
        refine WC.skip ?_
        refine WX.seqN ?_
        refine WC.seq ?_
        refine WC.region ?_
        refine WL.op (d := 51) (.string ⟨(GDisk.readT di (at_ + (out.length : Int))).toArray⟩) (by as_aux_lemma => kernel_rfl) (by as_aux_lemma => kernel_rfl) (by as_aux_lemma => kernel_rfl) rfl (by as_aux_lemma => kernel_rfl) (k := ?_)
        refine WL.callG (d := 52) (f := 32) (args := #[.string ⟨(GDisk.readT di (at_ + (out.length : Int))).toArray⟩]) (u04Read_c (l := GDisk.readT di (at_ + (out.length : Int))) (by show List.length (GDisk.readT di (at_ + (out.length : Int))) ≤ _; first | omega | (simp; done) | (simp; omega)) w22) (by as_aux_lemma => kernel_rfl) (by as_aux_lemma => kernel_rfl) (by as_aux_lemma => kernel_rfl) rfl (by as_aux_lemma => kernel_rfl) (k := fun e_ w39 h_ => ⟨.tuple #[.agg #[.string ⟨(rdP (GDisk.readT di (at_ + (out.length : Int)))).toArray⟩, .int .u64 ((rdE (GDisk.readT di (at_ + (out.length : Int))) : Nat) : Int), .int .u64 ((rdN (GDisk.readT di (at_ + (out.length : Int))) : Nat) : Int)], .bool (decide (isCell (GDisk.readT di (at_ + (out.length : Int)))))], h_.1, ?_⟩)
        have k40 := h_.2; clear h_
        replace hb6 := k40.heap hb6 id
        replace hd19 := hd19.adds k40
        replace hb11 := hb11.adds k40
        replace K := K.trans (k40.any _)
        have te36 := rdE_lt (GDisk.readT di (at_ + (out.length : Int)))
        have te37 := rdN_lt (GDisk.readT di (at_ + (out.length : Int)))
        have te38 := rdP_len (GDisk.readT di (at_ + (out.length : Int)))
        refine WL.op (d := 50) (.tuple #[.agg #[.string ⟨(rdP (GDisk.readT di (at_ + (out.length : Int)))).toArray⟩, .int .u64 ((rdE (GDisk.readT di (at_ + (out.length : Int))) : Nat) : Int), .int .u64 ((rdN (GDisk.readT di (at_ + (out.length : Int))) : Nat) : Int)], .bool (decide (isCell (GDisk.readT di (at_ + (out.length : Int)))))]) (by as_aux_lemma => kernel_rfl) (by as_aux_lemma => kernel_rfl) (by as_aux_lemma => kernel_rfl) rfl (by as_aux_lemma => kernel_rfl) (k := ?_)
        refine WL.op (d := 53) (.agg #[.string ⟨(rdP (GDisk.readT di (at_ + (out.length : Int)))).toArray⟩, .int .u64 ((rdE (GDisk.readT di (at_ + (out.length : Int))) : Nat) : Int), .int .u64 ((rdN (GDisk.readT di (at_ + (out.length : Int))) : Nat) : Int)]) (by as_aux_lemma => kernel_rfl) (by as_aux_lemma => kernel_rfl) (by as_aux_lemma => kernel_rfl) rfl (by as_aux_lemma => kernel_rfl) (k := ?_)
        refine WL.op (d := 54) (.bool (decide (isCell (GDisk.readT di (at_ + (out.length : Int)))))) (by as_aux_lemma => kernel_rfl) (by as_aux_lemma => kernel_rfl) (by as_aux_lemma => kernel_rfl) rfl (by as_aux_lemma => kernel_rfl) (k := ?_)
        refine WL.new (d := 11) (T := 72) #[.string ⟨#[]⟩, .int .u64 0, .int .u64 0] (by as_aux_lemma => kernel_rfl) (by as_aux_lemma => kernel_rfl) rfl (by as_aux_lemma => kernel_rfl) (by as_aux_lemma => kernel_rfl) (k := fun b41 w42 g43 hb44 k45 => ?_)
        have z46 := Nat.le_trans K.size g43
        have n47 : b ≠ b41 := Nat.ne_of_lt (Nat.lt_of_lt_of_le (lt_of_heap hb6) g43)
        have n48 : ¬ S b41 := fun h => absurd (hd19.lt _ h) (Nat.not_lt.2 g43)
        have n49 := OwAt.off_new hb11 g43
        replace hb6 := k45.heap hb6 id
        replace hd19 := hd19.adds k45
        replace hb11 := hb11.adds k45
        replace K := K.trans (k45.any _)
        refine WL.store (v := .agg #[.string ⟨(rdP (GDisk.readT di (at_ + (out.length : Int)))).toArray⟩, .int .u64 ((rdE (GDisk.readT di (at_ + (out.length : Int))) : Nat) : Int), .int .u64 ((rdN (GDisk.readT di (at_ + (out.length : Int))) : Nat) : Int)]) (i := 0) (cs' := #[.string ⟨(rdP (GDisk.readT di (at_ + (out.length : Int)))).toArray⟩, .int .u64 ((rdE (GDisk.readT di (at_ + (out.length : Int))) : Nat) : Int), .int .u64 ((rdN (GDisk.readT di (at_ + (out.length : Int))) : Nat) : Int)]) hb44 (by as_aux_lemma => kernel_rfl) (by as_aux_lemma => kernel_rfl) (by as_aux_lemma => kernel_rfl) (by as_aux_lemma => kernel_rfl) (by as_aux_lemma => kernel_rfl) (by as_aux_lemma => kernel_rfl) (by as_aux_lemma => kernel_rfl) (k := fun w50 hb51 k52 => ?_)
        replace hb6 := k52.heap hb6 n47
        replace hd19 := hd19.keeps k52 (fun i hi e => n48 (e ▸ hi))
        replace hb11 := hb11.keeps k52 (fun i hi e => (n49) (e ▸ hi))
        replace K := K.trans' k52 (fun i hi e => absurd (e ▸ hi) (Nat.not_lt.2 z46))
        clear hb44
        refine WL.op (d := 12) (.bool (decide (isCell (GDisk.readT di (at_ + (out.length : Int)))))) (by as_aux_lemma => kernel_rfl) (by as_aux_lemma => kernel_rfl) (by as_aux_lemma => kernel_rfl) rfl (by as_aux_lemma => kernel_rfl) (k := ?_)
        refine WL.nil ?_
        refine WX.seqN ?_
        refine WC.region ?_
        refine WL.op (d := 55) (.slice Ao out.length co) (by as_aux_lemma => kernel_rfl) (by as_aux_lemma => kernel_rfl) (by as_aux_lemma => kernel_rfl) rfl (by as_aux_lemma => kernel_rfl) (k := ?_)
        refine WL.op (d := 56) (.pointer (some ⟨b41, 0, none⟩)) (by as_aux_lemma => kernel_rfl) (by as_aux_lemma => kernel_rfl) (by as_aux_lemma => kernel_rfl) rfl (by as_aux_lemma => kernel_rfl) (k := ?_)
        refine WL.load (v := .string ⟨(rdP (GDisk.readT di (at_ + (out.length : Int)))).toArray⟩) (ld1 (T := 9) (i := 0) hb51 (by as_aux_lemma => kernel_rfl) (by as_aux_lemma => kernel_rfl)) (by as_aux_lemma => kernel_rfl) (by as_aux_lemma => kernel_rfl) (by as_aux_lemma => kernel_rfl) (k := ?_)
        refine WL.newF (d := 58) (T := 9) #[.string ⟨(rdP (GDisk.readT di (at_ + (out.length : Int)))).toArray⟩] (fun b => .slice (some ⟨b, 0, none⟩) 1 1) (by as_aux_lemma => kernel_rfl) (by as_aux_lemma => kernel_rfl) rfl (by as_aux_lemma => kernel_rfl) (by as_aux_lemma => kernel_rfl) (k := fun b53 w54 g55 hb56 k57 => ?_)
        have z58 := Nat.le_trans K.size g55
        have n59 : b ≠ b53 := Nat.ne_of_lt (Nat.lt_of_lt_of_le (lt_of_heap hb6) g55)
        have n60 : ¬ S b53 := fun h => absurd (hd19.lt _ h) (Nat.not_lt.2 g55)
        have n61 := OwAt.off_new hb11 g55
        have n62 : b41 ≠ b53 := Nat.ne_of_lt (Nat.lt_of_lt_of_le (lt_of_heap hb51) g55)
        replace hb6 := k57.heap hb6 id
        replace hd19 := hd19.adds k57
        replace hb11 := hb11.adds k57
        replace hb51 := k57.heap hb51 id
        replace K := K.trans (k57.any _)
        refine WL.append (d := 59) (T := 36) (cl := strC) (xs := out) (ys := [rdP (GDisk.readT di (at_ + (out.length : Int)))]) (c := 1) ekStr hb11 (SlAt.of_lit (ys := [rdP (GDisk.readT di (at_ + (out.length : Int)))]) ekStr hb56 (by as_aux_lemma => kernel_rfl)) (by first | omega | (simp; omega)) (k := fun A63 c64 w65 ho66 k67 n68 => ?_)
        have ol69 := olink_step ol12 K n68
        have n70 := fp_step n68 n10 hd19.lt
        have n71 := off_step n68 n49 (lt_of_heap hb51)
        replace hb6 := k67.heap hb6 (hb11.offT hb6 (by decide))
        replace hd19 := hd19.keeps k67 (fun i hi e => n10 i e hi)
        replace hb51 := k67.heap hb51 n49
        replace K := K.trans' k67 (fun i hi e => absurd hi (Nat.not_lt.2 (ol12 i e)))
        clear hb11
        refine WL.op (d := 6) (.slice A63 ((out ++ [rdP (GDisk.readT di (at_ + (out.length : Int)))]).length) c64) (by as_aux_lemma => kernel_rfl) (by as_aux_lemma => kernel_rfl) (by as_aux_lemma => kernel_rfl) rfl (by as_aux_lemma => kernel_rfl) (k := ?_)
        refine WL.nil ?_
        refine WX.blockN ?_
        refine WX.seqN ?_
        refine WC.region ?_
        refine WL.op (d := 24) (.int .i64 (out.length : Int)) (by as_aux_lemma => kernel_rfl) (by as_aux_lemma => kernel_rfl) (by as_aux_lemma => kernel_rfl) rfl (by as_aux_lemma => kernel_rfl) (k := ?_)
        refine WL.opE (d := 25) (.int .i64 (IntKind.i64.wrap ((out.length : Int) + 1))) (v := .int .i64 ((out.length : Int) + 1)) (congrArg (Value.int .i64) (IntWalk.i64_in _ (by omega))) (by as_aux_lemma => kernel_rfl) (by as_aux_lemma => kernel_rfl) (by as_aux_lemma => kernel_rfl) rfl (by as_aux_lemma => kernel_rfl) (k := ?_)
        refine WL.op (d := 7) (.int .i64 ((out.length : Int) + 1)) (by as_aux_lemma => kernel_rfl) (by as_aux_lemma => kernel_rfl) (by as_aux_lemma => kernel_rfl) rfl (by as_aux_lemma => kernel_rfl) (k := ?_)
        refine WL.nil ?_
        have z_ : GDisk.readE di (at_ + (out.length : Int)) = 0 := by omega
        have p_ := ph35
        obtain ⟨e1_, e2_⟩ := GDisk.rec_ok (i := (out.length : Int).toNat) z_ p_
        rw [← e1_] at ho66
        refine WX.rw (t := 6) (v := .slice A63 ((out ++ [GDisk.recT di (at_ + (out.length : Int)) e (out.length : Int).toNat]).length) c64) (congrArg (fun l => Value.slice A63 (List.length (out ++ [l])) c64) e1_.symm) (by as_aux_lemma => kernel_rfl) (k := ?_)
        refine WX.rw (t := 7) (v := .int .i64 ((out ++ [GDisk.recT di (at_ + (out.length : Int)) e (out.length : Int).toNat]).length : Int)) (congrArg (Value.int .i64) (by rw [List.length_append, List.length_singleton])) (by as_aux_lemma => kernel_rfl) (k := ?_)
        have lx_ : List.length (out ++ [GDisk.recT di (at_ + (out.length : Int)) e (out.length : Int).toNat]) = out.length + 1 := by simp
        refine WX.round (out ++ [GDisk.recT di (at_ + (out.length : Int)) e (out.length : Int).toNat], A63, c64, GDisk.readD di (at_ + (out.length : Int))) (by show (n.toNat - List.length (out ++ [GDisk.recT di (at_ + (out.length : Int)) e (out.length : Int).toNat])) < (n.toNat - List.length out); omega) ⟨(by as_aux_lemma => kernel_rfl), (by as_aux_lemma => kernel_rfl), (by as_aux_lemma => kernel_rfl), (by as_aux_lemma => kernel_rfl), (by as_aux_lemma => kernel_rfl), (by as_aux_lemma => kernel_rfl), (by as_aux_lemma => kernel_rfl), (by as_aux_lemma => kernel_rfl), (by as_aux_lemma => kernel_rfl), trivial⟩ ⟨K, hb6, hd19, lk8, n9, n70, ho66, ol69, (scan_go hg (by omega) (of_decide_eq_true e2_)), (by omega)⟩
  · have ph13 := of_decide_eq_false h13
    refine WC.exit ?_
    refine WX.seqE ?_
    refine WX.seqE ?_
    refine WX.blockE ?_
    refine WX.seqN ?_
    refine WC.seq ?_
    refine WC.region ?_
    refine WL.op (d := 60) (.pointer (some ⟨b, 0, none⟩)) (by as_aux_lemma => kernel_rfl) (by as_aux_lemma => kernel_rfl) (by as_aux_lemma => kernel_rfl) rfl (by as_aux_lemma => kernel_rfl) (k := ?_)
    refine WL.op (d := 61) (.pointer (some ⟨b, 0, none⟩)) (by as_aux_lemma => kernel_rfl) (by as_aux_lemma => kernel_rfl) (by as_aux_lemma => kernel_rfl) rfl (by as_aux_lemma => kernel_rfl) (k := ?_)
    refine WL.op (d := 62) (.pointer (some ⟨b, 3, none⟩)) (by as_aux_lemma => kernel_rfl) (by as_aux_lemma => kernel_rfl) (by as_aux_lemma => kernel_rfl) rfl (by as_aux_lemma => kernel_rfl) (k := ?_)
    refine WL.store (v := .bool true) (i := 3) (cs' := #[.pointer (some ⟨dk, 0, none⟩), .int .i64 at_, .int .i64 n, .bool true, .int .u64 ((ep : Nat) : Int), .int .i64 (ln : Int)]) hb6 (by as_aux_lemma => kernel_rfl) (by as_aux_lemma => kernel_rfl) (by as_aux_lemma => kernel_rfl) (by as_aux_lemma => kernel_rfl) (by as_aux_lemma => kernel_rfl) (by as_aux_lemma => kernel_rfl) (by as_aux_lemma => kernel_rfl) (k := fun w72 hb73 k74 => ?_)
    replace hb7 := hb7.keeps k74 (fun i hi e => n9 (e ▸ hi))
    replace hb11 := hb11.keeps k74 (fun i hi e => (hb11.offT hb6 (by decide)) (e ▸ hi))
    replace K := K.trans' k74 (fun i hi e => .inl e)
    clear hb6
    refine WL.nil ?_
    refine WX.seqN ?_
    refine WC.seq ?_
    refine WC.region ?_
    refine WL.op (d := 63) (.pointer (some ⟨b, 0, none⟩)) (by as_aux_lemma => kernel_rfl) (by as_aux_lemma => kernel_rfl) (by as_aux_lemma => kernel_rfl) rfl (by as_aux_lemma => kernel_rfl) (k := ?_)
    refine WL.op (d := 64) (.int .u64 ((e : Nat) : Int)) (by as_aux_lemma => kernel_rfl) (by as_aux_lemma => kernel_rfl) (by as_aux_lemma => kernel_rfl) rfl (by as_aux_lemma => kernel_rfl) (k := ?_)
    refine WL.op (d := 65) (.pointer (some ⟨b, 0, none⟩)) (by as_aux_lemma => kernel_rfl) (by as_aux_lemma => kernel_rfl) (by as_aux_lemma => kernel_rfl) rfl (by as_aux_lemma => kernel_rfl) (k := ?_)
    refine WL.op (d := 66) (.pointer (some ⟨b, 4, none⟩)) (by as_aux_lemma => kernel_rfl) (by as_aux_lemma => kernel_rfl) (by as_aux_lemma => kernel_rfl) rfl (by as_aux_lemma => kernel_rfl) (k := ?_)
    refine WL.store (v := .int .u64 ((e : Nat) : Int)) (i := 4) (cs' := #[.pointer (some ⟨dk, 0, none⟩), .int .i64 at_, .int .i64 n, .bool true, .int .u64 ((e : Nat) : Int), .int .i64 (ln : Int)]) hb73 (by as_aux_lemma => kernel_rfl) (by as_aux_lemma => kernel_rfl) (by as_aux_lemma => kernel_rfl) (by as_aux_lemma => kernel_rfl) (by as_aux_lemma => kernel_rfl) (by as_aux_lemma => kernel_rfl) (by as_aux_lemma => kernel_rfl) (k := fun w75 hb76 k77 => ?_)
    replace hb7 := hb7.keeps k77 (fun i hi e => n9 (e ▸ hi))
    replace hb11 := hb11.keeps k77 (fun i hi e => (hb11.offT hb73 (by decide)) (e ▸ hi))
    replace K := K.trans' k77 (fun i hi e => .inl e)
    clear hb73
    refine WL.nil ?_
    refine WX.seqN ?_
    refine WC.seq ?_
    refine WC.region ?_
    refine WL.op (d := 67) (.pointer (some ⟨b, 0, none⟩)) (by as_aux_lemma => kernel_rfl) (by as_aux_lemma => kernel_rfl) (by as_aux_lemma => kernel_rfl) rfl (by as_aux_lemma => kernel_rfl) (k := ?_)
    refine WL.op (d := 68) (.slice Ao out.length co) (by as_aux_lemma => kernel_rfl) (by as_aux_lemma => kernel_rfl) (by as_aux_lemma => kernel_rfl) rfl (by as_aux_lemma => kernel_rfl) (k := ?_)
    refine WL.op (d := 69) (.int .i64 (out.length : Int)) (by as_aux_lemma => kernel_rfl) (by as_aux_lemma => kernel_rfl) (by as_aux_lemma => kernel_rfl) rfl (by as_aux_lemma => kernel_rfl) (k := ?_)
    refine WL.op (d := 70) (.pointer (some ⟨b, 0, none⟩)) (by as_aux_lemma => kernel_rfl) (by as_aux_lemma => kernel_rfl) (by as_aux_lemma => kernel_rfl) rfl (by as_aux_lemma => kernel_rfl) (k := ?_)
    refine WL.op (d := 71) (.pointer (some ⟨b, 5, none⟩)) (by as_aux_lemma => kernel_rfl) (by as_aux_lemma => kernel_rfl) (by as_aux_lemma => kernel_rfl) rfl (by as_aux_lemma => kernel_rfl) (k := ?_)
    refine WL.store (v := .int .i64 (out.length : Int)) (i := 5) (cs' := #[.pointer (some ⟨dk, 0, none⟩), .int .i64 at_, .int .i64 n, .bool true, .int .u64 ((e : Nat) : Int), .int .i64 (out.length : Int)]) hb76 (by as_aux_lemma => kernel_rfl) (by as_aux_lemma => kernel_rfl) (by as_aux_lemma => kernel_rfl) (by as_aux_lemma => kernel_rfl) (by as_aux_lemma => kernel_rfl) (by as_aux_lemma => kernel_rfl) (by as_aux_lemma => kernel_rfl) (k := fun w78 hb79 k80 => ?_)
    replace hb7 := hb7.keeps k80 (fun i hi e => n9 (e ▸ hi))
    replace hb11 := hb11.keeps k80 (fun i hi e => (hb11.offT hb76 (by decide)) (e ▸ hi))
    replace K := K.trans' k80 (fun i hi e => .inl e)
    clear hb76
    refine WL.nil ?_
    refine WX.seqN ?_
    refine WC.seq ?_
    refine WC.region ?_
    refine WL.op (d := 72) (.slice Ao out.length co) (by as_aux_lemma => kernel_rfl) (by as_aux_lemma => kernel_rfl) (by as_aux_lemma => kernel_rfl) rfl (by as_aux_lemma => kernel_rfl) (k := ?_)
    refine WL.op (d := 4) (.slice Ao out.length co) (by as_aux_lemma => kernel_rfl) (by as_aux_lemma => kernel_rfl) (by as_aux_lemma => kernel_rfl) rfl (by as_aux_lemma => kernel_rfl) (k := ?_)
    refine WL.op (d := 5) (.int .i64 0) (by as_aux_lemma => kernel_rfl) (by as_aux_lemma => kernel_rfl) (by as_aux_lemma => kernel_rfl) rfl (by as_aux_lemma => kernel_rfl) (k := ?_)
    refine WL.nil ?_
    refine WX.seqN ?_
    refine WC.ret ?_
    refine WX.ret (rs := [.tmp 4, .tmp 5]) [.slice Ao out.length co, .int .i64 0] (.tuple #[.slice Ao out.length co, .int .i64 0]) ⟨(by as_aux_lemma => kernel_rfl), (by as_aux_lemma => kernel_rfl), trivial⟩ rfl rfl (k := ?_)
    have e_ := scan_end hg (by omega)
    rw [e_]
    exact ⟨_, _, rfl, hb79, hb11, ol12, hb7, n10, K⟩
set_option maxRecDepth 100000 in
set_option maxHeartbeats 4000000 in
theorem rlScan_no {S : Nat → Prop} {b dk ep ln : Nat} {op : Bool} {d : GDisk} {at_ n : Int} {w : World} {e : Nat} (hb : w.heap[b]? = some (.cells #[.pointer (some ⟨dk, 0, none⟩), .int .i64 at_, .int .i64 n, .bool op, .int .u64 (ep : Int), .int .i64 (ln : Int)] 63 (0, 0))) (hd : RefAt S dk d w) (hnb : ¬ S b) (a0 : 0 ≤ at_) (a1 : at_ ≤ 1024) (n1 : n ≤ 1024) (he : ¬ e = 0) (he2 : e < 18446744073709551616) (hR : ¬ (scanGo at_ e n.toNat d []).2.1 = 0) : Calls Tryz.prog 10 #[.pointer (some ⟨b, 0, none⟩), .int .u64 (e : Int)] w fun e_ w' => e_ = .returned (.tuple #[.slice none 0 0, .int .i64 (scanGo at_ e n.toNat d []).2.1]) ∧ w'.heap[b]? = some (.cells #[.pointer (some ⟨dk, 0, none⟩), .int .i64 at_, .int .i64 n, .bool false, .int .u64 (ep : Int), .int .i64 ln] 63 (0, 0)) ∧ RefAt S dk (scanGo at_ e n.toNat d []).2.2 w' ∧ Keeps (fun k => k = b ∨ S k) w w' := by
  have K : Keeps (fun k => k = b ∨ S k) w w := Keeps.refl _ w
  have lk0 : ∀ k, S k → S k ∨ w.heap.size ≤ k := fun k h => .inl h
  have h1 : (((e : Nat) : Int) == 0) = false := beq_eq_false_iff_ne.2 (by omega)
  have ph1 := ne_of_beq_false h1
  refine Calls.start Tryz.func10 rfl (by as_aux_lemma => kernel_rfl) ?_
  refine WC.seq ?_
  refine WC.region ?_
  refine WL.op (d := 4) (.slice none 0 0) (by as_aux_lemma => kernel_rfl) (by as_aux_lemma => kernel_rfl) (by as_aux_lemma => kernel_rfl) rfl (by as_aux_lemma => kernel_rfl) (k := ?_)
  refine WL.op (d := 5) (.int .i64 0) (by as_aux_lemma => kernel_rfl) (by as_aux_lemma => kernel_rfl) (by as_aux_lemma => kernel_rfl) rfl (by as_aux_lemma => kernel_rfl) (k := ?_)
  refine WL.nil ?_
  refine WX.seqN ?_
  refine WC.seq ?_
  refine WC.seq ?_
  refine WC.region ?_
  refine WL.op (d := 13) (.int .u64 ((e : Nat) : Int)) (by as_aux_lemma => kernel_rfl) (by as_aux_lemma => kernel_rfl) (by as_aux_lemma => kernel_rfl) rfl (by as_aux_lemma => kernel_rfl) (k := ?_)
  refine WL.op (d := 14) (.bool (((e : Nat) : Int) == 0)) (by as_aux_lemma => kernel_rfl) (by as_aux_lemma => kernel_rfl) (by as_aux_lemma => kernel_rfl) rfl (by as_aux_lemma => kernel_rfl) (k := ?_)
  refine WL.nil ?_
  refine WX.seqN ?_
  refine WC.rw (t := 14) (v := .bool false) (congrArg Value.bool h1) (by as_aux_lemma => kernel_rfl) (k := ?_)
  refine WC.condF (by as_aux_lemma => kernel_rfl) (k := ?_)
  refine WC.skip ?_
  refine WX.seqN ?_
  refine WC.seq ?_
  refine WC.region ?_
  refine WL.op (d := 15) (.pointer (some ⟨b, 0, none⟩)) (by as_aux_lemma => kernel_rfl) (by as_aux_lemma => kernel_rfl) (by as_aux_lemma => kernel_rfl) rfl (by as_aux_lemma => kernel_rfl) (k := ?_)
  refine WL.op (d := 16) (.pointer (some ⟨b, 0, none⟩)) (by as_aux_lemma => kernel_rfl) (by as_aux_lemma => kernel_rfl) (by as_aux_lemma => kernel_rfl) rfl (by as_aux_lemma => kernel_rfl) (k := ?_)
  refine WL.op (d := 17) (.pointer (some ⟨b, 3, none⟩)) (by as_aux_lemma => kernel_rfl) (by as_aux_lemma => kernel_rfl) (by as_aux_lemma => kernel_rfl) rfl (by as_aux_lemma => kernel_rfl) (k := ?_)
  refine WL.store (v := .bool false) (i := 3) (cs' := #[.pointer (some ⟨dk, 0, none⟩), .int .i64 at_, .int .i64 n, .bool false, .int .u64 ((ep : Nat) : Int), .int .i64 (ln : Int)]) hb (by as_aux_lemma => kernel_rfl) (by as_aux_lemma => kernel_rfl) (by as_aux_lemma => kernel_rfl) (by as_aux_lemma => kernel_rfl) (by as_aux_lemma => kernel_rfl) (by as_aux_lemma => kernel_rfl) (by as_aux_lemma => kernel_rfl) (k := fun w2 hb3 k4 => ?_)
  replace hd := hd.keeps k4 (fun i hi e => hnb (e ▸ hi))
  replace K := K.trans' k4 (fun i hi e => .inl e)
  clear hb
  refine WL.nil ?_
  refine WX.seqN ?_
  refine WC.seq ?_
  refine WC.region ?_
  refine WL.op (d := 6) (.slice none 0 0) (by as_aux_lemma => kernel_rfl) (by as_aux_lemma => kernel_rfl) (by as_aux_lemma => kernel_rfl) rfl (by as_aux_lemma => kernel_rfl) (k := ?_)
  refine WL.nil ?_
  refine WX.seqN ?_
  refine WC.seq ?_
  refine WC.seq ?_
  refine WC.region ?_
  refine WL.op (d := 7) (.int .i64 0) (by as_aux_lemma => kernel_rfl) (by as_aux_lemma => kernel_rfl) (by as_aux_lemma => kernel_rfl) rfl (by as_aux_lemma => kernel_rfl) (k := ?_)
  refine WL.nil ?_
  refine WX.seqN ?_
  refine WC.block ?_
  refine WC.rw (t := 7) (v := .int .i64 (([] : List (List UInt8)).length : Int)) (rfl) (by as_aux_lemma => kernel_rfl) (k := ?_)
  refine WC.loop (ι := (List (List UInt8)) × (Option Addr) × Nat × GDisk) (fun (⟨out, Ao, co, di⟩ : (List (List UInt8)) × (Option Addr) × Nat × GDisk) => [(0, .pointer (some ⟨b, 0, none⟩)), (1, .int .u64 ((e : Nat) : Int)), (13, .int .u64 ((e : Nat) : Int)), (14, .bool false), (15, .pointer (some ⟨b, 0, none⟩)), (16, .pointer (some ⟨b, 0, none⟩)), (17, .pointer (some ⟨b, 3, none⟩)), (7, .int .i64 (out.length : Int)), (6, .slice Ao out.length co)]) (fun (⟨out, Ao, co, di⟩ : (List (List UInt8)) × (Option Addr) × Nat × GDisk) (w_ : World) => (Keeps (fun k => k = b ∨ S k) w w_) ∧ (w_.heap[b]? = some (.cells #[.pointer (some ⟨dk, 0, none⟩), .int .i64 at_, .int .i64 n, .bool false, .int .u64 ((ep : Nat) : Int), .int .i64 (ln : Int)] 63 (0, 0))) ∧ (RefAt S dk di w_) ∧ (∀ k, S k → S k ∨ w.heap.size ≤ k) ∧ (¬ S b) ∧ (∀ i, blk Ao = some i → ¬ S i) ∧ (OwAt strC 1 9 Ao co out w_) ∧ (∀ i, blk Ao = some i → w.heap.size ≤ i) ∧ (scanGo at_ e n.toNat d [] = scanGo at_ e (n.toNat - out.length) di out) ∧ (out.length ≤ n.toNat)) (fun (⟨out, Ao, co, di⟩ : (List (List UInt8)) × (Option Addr) × Nat × GDisk) => (n.toNat - List.length out)) ([], none, 0, d) ⟨(by as_aux_lemma => kernel_rfl), (by as_aux_lemma => kernel_rfl), (by as_aux_lemma => kernel_rfl), (by as_aux_lemma => kernel_rfl), (by as_aux_lemma => kernel_rfl), (by as_aux_lemma => kernel_rfl), (by as_aux_lemma => kernel_rfl), (by as_aux_lemma => kernel_rfl), (by as_aux_lemma => kernel_rfl), trivial⟩ ⟨K, hb3, hd, lk0, hnb, (fun i hi => by simp [blk] at hi), OwAt.nil, (by simp [blk]), rfl, (Nat.zero_le _)⟩ ?_
  rintro ⟨out, Ao, co, di⟩ w5 ⟨K, hb6, hb7, lk8, n9, n10, hb11, ol12, hg, lo⟩
  refine WC.seq ?_
  refine WC.seq ?_
  refine WC.region ?_
  refine WL.op (d := 18) (.int .i64 (out.length : Int)) (by as_aux_lemma => kernel_rfl) (by as_aux_lemma => kernel_rfl) (by as_aux_lemma => kernel_rfl) rfl (by as_aux_lemma => kernel_rfl) (k := ?_)
  refine WL.op (d := 19) (.pointer (some ⟨b, 0, none⟩)) (by as_aux_lemma => kernel_rfl) (by as_aux_lemma => kernel_rfl) (by as_aux_lemma => kernel_rfl) rfl (by as_aux_lemma => kernel_rfl) (k := ?_)
  refine WL.op (d := 20) (.pointer (some ⟨b, 0, none⟩)) (by as_aux_lemma => kernel_rfl) (by as_aux_lemma => kernel_rfl) (by as_aux_lemma => kernel_rfl) rfl (by as_aux_lemma => kernel_rfl) (k := ?_)
  refine WL.op (d := 21) (.pointer (some ⟨b, 2, none⟩)) (by as_aux_lemma => kernel_rfl) (by as_aux_lemma => kernel_rfl) (by as_aux_lemma => kernel_rfl) rfl (by as_aux_lemma => kernel_rfl) (k := ?_)
  refine WL.load (v := .int .i64 n) (ld1 (T := 3) (i := 2) hb6 (by as_aux_lemma => kernel_rfl) (by as_aux_lemma => kernel_rfl)) (by as_aux_lemma => kernel_rfl) (by as_aux_lemma => kernel_rfl) (by as_aux_lemma => kernel_rfl) (k := ?_)
  refine WL.op (d := 23) (.bool (decide ((out.length : Int) < n))) (by as_aux_lemma => kernel_rfl) (by as_aux_lemma => kernel_rfl) (by as_aux_lemma => kernel_rfl) rfl (by as_aux_lemma => kernel_rfl) (k := ?_)
  refine WL.nil ?_
  refine WX.seqN ?_
  refine WC.cond (b := decide ((out.length : Int) < n)) (by as_aux_lemma => kernel_rfl) (ht := fun h13 => ?_) (hf := fun h13 => ?_)
  · have ph13 := of_decide_eq_true h13
    refine WC.skip ?_
    refine WX.seqN ?_
    refine WC.seq ?_
    refine WC.block ?_
    refine WC.seq ?_
    refine WC.mixed (fun k => S k) 15 (k := fun w14 k15 => ?_)
    replace hb6 := k15.heap hb6 id
    replace hb7 := hb7.adds k15
    replace hb11 := hb11.adds k15
    replace K := K.trans (k15.any _)
    have KC := Keeps.refl (fun k => S k) w14
    have bh16 := hb6
    have Kb := K
    refine WA.quiet 0 (d := 27) (.pointer (some ⟨b, 0, none⟩)) KC (hi := rfl) (hs := by as_aux_lemma => kernel_rfl) (hf := by as_aux_lemma => kernel_rfl) (hw := by as_aux_lemma => kernel_rfl) (hd := by as_aux_lemma => kernel_rfl) (hn := by as_aux_lemma => kernel_rfl) (ho := by as_aux_lemma => kernel_rfl) (hr := by as_aux_lemma => intro _ _; kernel_rfl) (k := ?_)
    refine WA.quiet 1 (d := 28) (.pointer (some ⟨b, 0, none⟩)) KC (hi := rfl) (hs := by as_aux_lemma => kernel_rfl) (hf := by as_aux_lemma => kernel_rfl) (hw := by as_aux_lemma => kernel_rfl) (hd := by as_aux_lemma => kernel_rfl) (hn := by as_aux_lemma => kernel_rfl) (ho := by as_aux_lemma => kernel_rfl) (hr := by as_aux_lemma => intro _ _; kernel_rfl) (k := ?_)
    refine WA.quiet 2 (d := 29) (.pointer (some ⟨b, 0, none⟩)) KC (hi := rfl) (hs := by as_aux_lemma => kernel_rfl) (hf := by as_aux_lemma => kernel_rfl) (hw := by as_aux_lemma => kernel_rfl) (hd := by as_aux_lemma => kernel_rfl) (hn := by as_aux_lemma => kernel_rfl) (ho := by as_aux_lemma => kernel_rfl) (hr := by as_aux_lemma => intro _ _; kernel_rfl) (k := ?_)
    refine WA.quietR 3 (d := 30) (.pointer (some ⟨dk, 0, none⟩)) KC (exec_load (fun w_ k_ => ld1 (T := 28) (i := 0) (k_.heap bh16 n9) (by as_aux_lemma => kernel_rfl) (by as_aux_lemma => kernel_rfl))) (hi := rfl) (hs := by as_aux_lemma => kernel_rfl) (hf := by as_aux_lemma => kernel_rfl) (hw := by as_aux_lemma => kernel_rfl) (hd := by as_aux_lemma => kernel_rfl) (hn := by as_aux_lemma => kernel_rfl) (k := ?_)
    refine WA.quiet 4 (d := 31) (.pointer (some ⟨b, 0, none⟩)) KC (hi := rfl) (hs := by as_aux_lemma => kernel_rfl) (hf := by as_aux_lemma => kernel_rfl) (hw := by as_aux_lemma => kernel_rfl) (hd := by as_aux_lemma => kernel_rfl) (hn := by as_aux_lemma => kernel_rfl) (ho := by as_aux_lemma => kernel_rfl) (hr := by as_aux_lemma => intro _ _; kernel_rfl) (k := ?_)
    refine WA.quiet 5 (d := 32) (.pointer (some ⟨b, 0, none⟩)) KC (hi := rfl) (hs := by as_aux_lemma => kernel_rfl) (hf := by as_aux_lemma => kernel_rfl) (hw := by as_aux_lemma => kernel_rfl) (hd := by as_aux_lemma => kernel_rfl) (hn := by as_aux_lemma => kernel_rfl) (ho := by as_aux_lemma => kernel_rfl) (hr := by as_aux_lemma => intro _ _; kernel_rfl) (k := ?_)
    refine WA.quiet 6 (d := 33) (.pointer (some ⟨b, 1, none⟩)) KC (hi := rfl) (hs := by as_aux_lemma => kernel_rfl) (hf := by as_aux_lemma => kernel_rfl) (hw := by as_aux_lemma => kernel_rfl) (hd := by as_aux_lemma => kernel_rfl) (hn := by as_aux_lemma => kernel_rfl) (ho := by as_aux_lemma => kernel_rfl) (hr := by as_aux_lemma => intro _ _; kernel_rfl) (k := ?_)
    refine WA.quietR 7 (d := 34) (.int .i64 at_) KC (exec_load (fun w_ k_ => ld1 (T := 3) (i := 1) (k_.heap bh16 n9) (by as_aux_lemma => kernel_rfl) (by as_aux_lemma => kernel_rfl))) (hi := rfl) (hs := by as_aux_lemma => kernel_rfl) (hf := by as_aux_lemma => kernel_rfl) (hw := by as_aux_lemma => kernel_rfl) (hd := by as_aux_lemma => kernel_rfl) (hn := by as_aux_lemma => kernel_rfl) (k := ?_)
    refine WA.quiet 8 (d := 35) (.int .i64 (out.length : Int)) KC (hi := rfl) (hs := by as_aux_lemma => kernel_rfl) (hf := by as_aux_lemma => kernel_rfl) (hw := by as_aux_lemma => kernel_rfl) (hd := by as_aux_lemma => kernel_rfl) (hn := by as_aux_lemma => kernel_rfl) (ho := by as_aux_lemma => kernel_rfl) (hr := by as_aux_lemma => intro _ _; kernel_rfl) (k := ?_)
    refine WA.quiet 9 (d := 36) (.int .i64 (IntKind.i64.wrap (at_ + (out.length : Int)))) KC (hi := rfl) (hs := by as_aux_lemma => kernel_rfl) (hf := by as_aux_lemma => kernel_rfl) (hw := by as_aux_lemma => kernel_rfl) (hd := by as_aux_lemma => kernel_rfl) (hn := by as_aux_lemma => kernel_rfl) (ho := by as_aux_lemma => kernel_rfl) (hr := by as_aux_lemma => intro _ _; kernel_rfl) (k := ?_)
    refine WA.rw (t := 36) (v := .int .i64 (at_ + (out.length : Int))) (congrArg (Value.int .i64) (IntWalk.i64_in _ (by omega))) (k := ?_)
    refine WA.step 10 (hi := rfl) (k := ?_)
    have tl17 := readT_len hb7.ok (at_ + (out.length : Int))
    refine WL.callG (d := 37) (f := 30) (args := #[.pointer (some ⟨dk, 0, none⟩), .int .i64 (at_ + (out.length : Int))]) (rdRead_c (a := at_ + (out.length : Int)) hb7) (by as_aux_lemma => kernel_rfl) (by as_aux_lemma => kernel_rfl) (by as_aux_lemma => kernel_rfl) rfl (by as_aux_lemma => kernel_rfl) (k := fun e_ w18 h_ => ?_)
    obtain ⟨rfl, hd19, k20⟩ := h_
    refine ⟨_, rfl, ?_⟩
    replace hb6 := k20.heap hb6 n9
    replace hb11 := hb11.keeps k20 n10
    replace K := K.trans' k20 (fun i hi e => (lk8 i e).elim (fun h => .inr h) (fun h => absurd hi (Nat.not_lt.2 h)))
    replace KC := KC.trans' k20 (fun i hi e => e)
    clear hb7
    refine WL.nil ?_
    refine WX.nxt KC ?_
    refine WA.quiet 11 (d := 26) (.tuple #[.string ⟨(GDisk.readT di (at_ + (out.length : Int))).toArray⟩, .int .i64 (GDisk.readE di (at_ + (out.length : Int)))]) KC (hi := rfl) (hs := by as_aux_lemma => kernel_rfl) (hf := by as_aux_lemma => kernel_rfl) (hw := by as_aux_lemma => kernel_rfl) (hd := by as_aux_lemma => kernel_rfl) (hn := by as_aux_lemma => kernel_rfl) (ho := by as_aux_lemma => kernel_rfl) (hr := by as_aux_lemma => intro _ _; kernel_rfl) (k := ?_)
    refine WA.quiet 12 (d := 38) (.string ⟨(GDisk.readT di (at_ + (out.length : Int))).toArray⟩) KC (hi := rfl) (hs := by as_aux_lemma => kernel_rfl) (hf := by as_aux_lemma => kernel_rfl) (hw := by as_aux_lemma => kernel_rfl) (hd := by as_aux_lemma => kernel_rfl) (hn := by as_aux_lemma => kernel_rfl) (ho := by as_aux_lemma => kernel_rfl) (hr := by as_aux_lemma => intro _ _; kernel_rfl) (k := ?_)
    refine WA.quiet 13 (d := 39) (.int .i64 (GDisk.readE di (at_ + (out.length : Int)))) KC (hi := rfl) (hs := by as_aux_lemma => kernel_rfl) (hf := by as_aux_lemma => kernel_rfl) (hw := by as_aux_lemma => kernel_rfl) (hd := by as_aux_lemma => kernel_rfl) (hn := by as_aux_lemma => kernel_rfl) (ho := by as_aux_lemma => kernel_rfl) (hr := by as_aux_lemma => intro _ _; kernel_rfl) (k := ?_)
    refine WA.quiet 14 (d := 8) (.string ⟨(GDisk.readT di (at_ + (out.length : Int))).toArray⟩) KC (hi := rfl) (hs := by as_aux_lemma => kernel_rfl) (hf := by as_aux_lemma => kernel_rfl) (hw := by as_aux_lemma => kernel_rfl) (hd := by as_aux_lemma => kernel_rfl) (hn := by as_aux_lemma => kernel_rfl) (ho := by as_aux_lemma => kernel_rfl) (hr := by as_aux_lemma => intro _ _; kernel_rfl) (k := ?_)
    refine WA.step 15 (hi := rfl) (k := ?_)
    refine WL.op (d := 9) (.int .i64 (GDisk.readE di (at_ + (out.length : Int)))) (by as_aux_lemma => kernel_rfl) (by as_aux_lemma => kernel_rfl) (by as_aux_lemma => kernel_rfl) rfl (by as_aux_lemma => kernel_rfl) (k := ?_)
    refine WL.nil ?_
    refine WX.nxtL ?_
    refine WA.done (k := ?_)
    clear KC
    refine WX.seqN ?_
    refine WC.seq ?_
    refine WC.seq ?_
    refine WC.region ?_
    refine WL.op (d := 40) (.int .i64 (GDisk.readE di (at_ + (out.length : Int)))) (by as_aux_lemma => kernel_rfl) (by as_aux_lemma => kernel_rfl) (by as_aux_lemma => kernel_rfl) rfl (by as_aux_lemma => kernel_rfl) (k := ?_)
    refine WL.op (d := 41) (.bool ((GDisk.readE di (at_ + (out.length : Int))) != 0)) (by as_aux_lemma => kernel_rfl) (by as_aux_lemma => kernel_rfl) (by as_aux_lemma => kernel_rfl) rfl (by as_aux_lemma => kernel_rfl) (k := ?_)
    refine WL.nil ?_
    refine WX.seqN ?_
    refine WC.cond (b := (GDisk.readE di (at_ + (out.length : Int))) != 0) (by as_aux_lemma => kernel_rfl) (ht := fun h21 => ?_) (hf := fun h21 => ?_)
    · have ph21 := bne_iff_ne.1 h21
      refine WC.seq ?_
      refine WC.region ?_
      refine WL.op (d := 42) (.int .i64 (GDisk.readE di (at_ + (out.length : Int)))) (by as_aux_lemma => kernel_rfl) (by as_aux_lemma => kernel_rfl) (by as_aux_lemma => kernel_rfl) rfl (by as_aux_lemma => kernel_rfl) (k := ?_)
      refine WL.op (d := 4) (.slice none 0 0) (by as_aux_lemma => kernel_rfl) (by as_aux_lemma => kernel_rfl) (by as_aux_lemma => kernel_rfl) rfl (by as_aux_lemma => kernel_rfl) (k := ?_)
      refine WL.op (d := 5) (.int .i64 (GDisk.readE di (at_ + (out.length : Int)))) (by as_aux_lemma => kernel_rfl) (by as_aux_lemma => kernel_rfl) (by as_aux_lemma => kernel_rfl) rfl (by as_aux_lemma => kernel_rfl) (k := ?_)
      refine WL.nil ?_
      refine WX.seqN ?_
      refine WC.ret ?_
      refine WX.seqR ?_
      refine WX.blockR ?_
      refine WX.seqR ?_
      refine WX.seqR ?_
      refine WX.blockR ?_
      refine WX.seqR ?_
      refine WX.ret (rs := [.tmp 4, .tmp 5]) [.slice none 0 0, .int .i64 (GDisk.readE di (at_ + (out.length : Int)))] (.tuple #[.slice none 0 0, .int .i64 (GDisk.readE di (at_ + (out.length : Int)))]) ⟨(by as_aux_lemma => kernel_rfl), (by as_aux_lemma => kernel_rfl), trivial⟩ rfl rfl (k := ?_)
      have e_ := scan_stop hg (by omega) (fun k_ => ph21 k_.1)
      rw [e_]
      exact ⟨rfl, hb6, hd19, K⟩
    · have ph21 := of_bne_false h21
      refine WC.skip ?_
      refine WX.seqN ?_
      refine WC.seq ?_
      refine WC.region ?_
      refine WL.op (d := 43) (.string ⟨(GDisk.readT di (at_ + (out.length : Int))).toArray⟩) (by as_aux_lemma => kernel_rfl) (by as_aux_lemma => kernel_rfl) (by as_aux_lemma => kernel_rfl) rfl (by as_aux_lemma => kernel_rfl) (k := ?_)
      refine WL.op (d := 44) (.int .u64 ((e : Nat) : Int)) (by as_aux_lemma => kernel_rfl) (by as_aux_lemma => kernel_rfl) (by as_aux_lemma => kernel_rfl) rfl (by as_aux_lemma => kernel_rfl) (k := ?_)
      refine WL.op (d := 45) (.int .i64 (out.length : Int)) (by as_aux_lemma => kernel_rfl) (by as_aux_lemma => kernel_rfl) (by as_aux_lemma => kernel_rfl) rfl (by as_aux_lemma => kernel_rfl) (k := ?_)
      refine WL.opE (d := 46) (.int .u64 (IntKind.u64.wrap (out.length : Int))) (v := .int .u64 (((out.length : Int).toNat : Nat) : Int)) (congrArg (Value.int .u64) (by rw [IntWalk.u64_in _ (by omega)]; omega)) (by as_aux_lemma => kernel_rfl) (by as_aux_lemma => kernel_rfl) (by as_aux_lemma => kernel_rfl) rfl (by as_aux_lemma => kernel_rfl) (k := ?_)
      refine WL.callG (d := 47) (f := 31) (args := #[.string ⟨(GDisk.readT di (at_ + (out.length : Int))).toArray⟩, .int .u64 ((e : Nat) : Int), .int .u64 (((out.length : Int).toNat : Nat) : Int)]) (u04Whole_c (l := GDisk.readT di (at_ + (out.length : Int))) (e := e) (n := (out.length : Int).toNat) (by show List.length (GDisk.readT di (at_ + (out.length : Int))) ≤ _; first | omega | (simp; done) | (simp; omega)) w18) (by as_aux_lemma => kernel_rfl) (by as_aux_lemma => kernel_rfl) (by as_aux_lemma => kernel_rfl) rfl (by as_aux_lemma => kernel_rfl) (k := fun e_ w22 h_ => ⟨.bool (decide (isCell (GDisk.readT di (at_ + (out.length : Int))) ∧ rdE (GDisk.readT di (at_ + (out.length : Int))) = e ∧ rdN (GDisk.readT di (at_ + (out.length : Int))) = (out.length : Int).toNat)), h_.1, ?_⟩)
      have k23 := h_.2; clear h_
      replace hb6 := k23.heap hb6 id
      replace hd19 := hd19.adds k23
      replace hb11 := hb11.adds k23
      replace K := K.trans (k23.any _)
      refine WL.op (d := 10) (.bool (decide (isCell (GDisk.readT di (at_ + (out.length : Int))) ∧ rdE (GDisk.readT di (at_ + (out.length : Int))) = e ∧ rdN (GDisk.readT di (at_ + (out.length : Int))) = (out.length : Int).toNat))) (by as_aux_lemma => kernel_rfl) (by as_aux_lemma => kernel_rfl) (by as_aux_lemma => kernel_rfl) rfl (by as_aux_lemma => kernel_rfl) (k := ?_)
      refine WL.nil ?_
      refine WX.seqN ?_
      refine WC.seq ?_
      refine WC.seq ?_
      refine WC.region ?_
      refine WL.op (d := 48) (.bool (decide (isCell (GDisk.readT di (at_ + (out.length : Int))) ∧ rdE (GDisk.readT di (at_ + (out.length : Int))) = e ∧ rdN (GDisk.readT di (at_ + (out.length : Int))) = (out.length : Int).toNat))) (by as_aux_lemma => kernel_rfl) (by as_aux_lemma => kernel_rfl) (by as_aux_lemma => kernel_rfl) rfl (by as_aux_lemma => kernel_rfl) (k := ?_)
      refine WL.op (d := 49) (.bool (!(decide (isCell (GDisk.readT di (at_ + (out.length : Int))) ∧ rdE (GDisk.readT di (at_ + (out.length : Int))) = e ∧ rdN (GDisk.readT di (at_ + (out.length : Int))) = (out.length : Int).toNat)))) (by as_aux_lemma => kernel_rfl) (by as_aux_lemma => kernel_rfl) (by as_aux_lemma => kernel_rfl) rfl (by as_aux_lemma => kernel_rfl) (k := ?_)
      refine WL.nil ?_
      refine WX.seqN ?_
      refine WC.cond (b := !(decide (isCell (GDisk.readT di (at_ + (out.length : Int))) ∧ rdE (GDisk.readT di (at_ + (out.length : Int))) = e ∧ rdN (GDisk.readT di (at_ + (out.length : Int))) = (out.length : Int).toNat))) (by as_aux_lemma => kernel_rfl) (ht := fun h24 => ?_) (hf := fun h24 => ?_)
      · have h25 : (decide (isCell (GDisk.readT di (at_ + (out.length : Int))) ∧ rdE (GDisk.readT di (at_ + (out.length : Int))) = e ∧ rdN (GDisk.readT di (at_ + (out.length : Int))) = (out.length : Int).toNat)) = false := Bool.not_inj (y := false) h24
        have ph25 := of_decide_eq_false h25
        refine WC.exit ?_
        refine WX.seqE ?_
        refine WX.blockO (by as_aux_lemma => kernel_rfl) ?_
        refine WX.seqE ?_
        refine WX.seqE ?_
        refine WX.blockE ?_
        refine WX.seqN ?_
        refine WC.seq ?_
        refine WC.region ?_
        refine WL.op (d := 60) (.pointer (some ⟨b, 0, none⟩)) (by as_aux_lemma => kernel_rfl) (by as_aux_lemma => kernel_rfl) (by as_aux_lemma => kernel_rfl) rfl (by as_aux_lemma => kernel_rfl) (k := ?_)
        refine WL.op (d := 61) (.pointer (some ⟨b, 0, none⟩)) (by as_aux_lemma => kernel_rfl) (by as_aux_lemma => kernel_rfl) (by as_aux_lemma => kernel_rfl) rfl (by as_aux_lemma => kernel_rfl) (k := ?_)
        refine WL.op (d := 62) (.pointer (some ⟨b, 3, none⟩)) (by as_aux_lemma => kernel_rfl) (by as_aux_lemma => kernel_rfl) (by as_aux_lemma => kernel_rfl) rfl (by as_aux_lemma => kernel_rfl) (k := ?_)
        refine WL.store (v := .bool true) (i := 3) (cs' := #[.pointer (some ⟨dk, 0, none⟩), .int .i64 at_, .int .i64 n, .bool true, .int .u64 ((ep : Nat) : Int), .int .i64 (ln : Int)]) hb6 (by as_aux_lemma => kernel_rfl) (by as_aux_lemma => kernel_rfl) (by as_aux_lemma => kernel_rfl) (by as_aux_lemma => kernel_rfl) (by as_aux_lemma => kernel_rfl) (by as_aux_lemma => kernel_rfl) (by as_aux_lemma => kernel_rfl) (k := fun w26 hb27 k28 => ?_)
        replace hd19 := hd19.keeps k28 (fun i hi e => n9 (e ▸ hi))
        replace hb11 := hb11.keeps k28 (fun i hi e => (hb11.offT hb6 (by decide)) (e ▸ hi))
        replace K := K.trans' k28 (fun i hi e => .inl e)
        clear hb6
        refine WL.nil ?_
        refine WX.seqN ?_
        refine WC.seq ?_
        refine WC.region ?_
        refine WL.op (d := 63) (.pointer (some ⟨b, 0, none⟩)) (by as_aux_lemma => kernel_rfl) (by as_aux_lemma => kernel_rfl) (by as_aux_lemma => kernel_rfl) rfl (by as_aux_lemma => kernel_rfl) (k := ?_)
        refine WL.op (d := 64) (.int .u64 ((e : Nat) : Int)) (by as_aux_lemma => kernel_rfl) (by as_aux_lemma => kernel_rfl) (by as_aux_lemma => kernel_rfl) rfl (by as_aux_lemma => kernel_rfl) (k := ?_)
        refine WL.op (d := 65) (.pointer (some ⟨b, 0, none⟩)) (by as_aux_lemma => kernel_rfl) (by as_aux_lemma => kernel_rfl) (by as_aux_lemma => kernel_rfl) rfl (by as_aux_lemma => kernel_rfl) (k := ?_)
        refine WL.op (d := 66) (.pointer (some ⟨b, 4, none⟩)) (by as_aux_lemma => kernel_rfl) (by as_aux_lemma => kernel_rfl) (by as_aux_lemma => kernel_rfl) rfl (by as_aux_lemma => kernel_rfl) (k := ?_)
        refine WL.store (v := .int .u64 ((e : Nat) : Int)) (i := 4) (cs' := #[.pointer (some ⟨dk, 0, none⟩), .int .i64 at_, .int .i64 n, .bool true, .int .u64 ((e : Nat) : Int), .int .i64 (ln : Int)]) hb27 (by as_aux_lemma => kernel_rfl) (by as_aux_lemma => kernel_rfl) (by as_aux_lemma => kernel_rfl) (by as_aux_lemma => kernel_rfl) (by as_aux_lemma => kernel_rfl) (by as_aux_lemma => kernel_rfl) (by as_aux_lemma => kernel_rfl) (k := fun w29 hb30 k31 => ?_)
        replace hd19 := hd19.keeps k31 (fun i hi e => n9 (e ▸ hi))
        replace hb11 := hb11.keeps k31 (fun i hi e => (hb11.offT hb27 (by decide)) (e ▸ hi))
        replace K := K.trans' k31 (fun i hi e => .inl e)
        clear hb27
        refine WL.nil ?_
        refine WX.seqN ?_
        refine WC.seq ?_
        refine WC.region ?_
        refine WL.op (d := 67) (.pointer (some ⟨b, 0, none⟩)) (by as_aux_lemma => kernel_rfl) (by as_aux_lemma => kernel_rfl) (by as_aux_lemma => kernel_rfl) rfl (by as_aux_lemma => kernel_rfl) (k := ?_)
        refine WL.op (d := 68) (.slice Ao out.length co) (by as_aux_lemma => kernel_rfl) (by as_aux_lemma => kernel_rfl) (by as_aux_lemma => kernel_rfl) rfl (by as_aux_lemma => kernel_rfl) (k := ?_)
        refine WL.op (d := 69) (.int .i64 (out.length : Int)) (by as_aux_lemma => kernel_rfl) (by as_aux_lemma => kernel_rfl) (by as_aux_lemma => kernel_rfl) rfl (by as_aux_lemma => kernel_rfl) (k := ?_)
        refine WL.op (d := 70) (.pointer (some ⟨b, 0, none⟩)) (by as_aux_lemma => kernel_rfl) (by as_aux_lemma => kernel_rfl) (by as_aux_lemma => kernel_rfl) rfl (by as_aux_lemma => kernel_rfl) (k := ?_)
        refine WL.op (d := 71) (.pointer (some ⟨b, 5, none⟩)) (by as_aux_lemma => kernel_rfl) (by as_aux_lemma => kernel_rfl) (by as_aux_lemma => kernel_rfl) rfl (by as_aux_lemma => kernel_rfl) (k := ?_)
        refine WL.store (v := .int .i64 (out.length : Int)) (i := 5) (cs' := #[.pointer (some ⟨dk, 0, none⟩), .int .i64 at_, .int .i64 n, .bool true, .int .u64 ((e : Nat) : Int), .int .i64 (out.length : Int)]) hb30 (by as_aux_lemma => kernel_rfl) (by as_aux_lemma => kernel_rfl) (by as_aux_lemma => kernel_rfl) (by as_aux_lemma => kernel_rfl) (by as_aux_lemma => kernel_rfl) (by as_aux_lemma => kernel_rfl) (by as_aux_lemma => kernel_rfl) (k := fun w32 hb33 k34 => ?_)
        replace hd19 := hd19.keeps k34 (fun i hi e => n9 (e ▸ hi))
        replace hb11 := hb11.keeps k34 (fun i hi e => (hb11.offT hb30 (by decide)) (e ▸ hi))
        replace K := K.trans' k34 (fun i hi e => .inl e)
        clear hb30
        refine WL.nil ?_
        refine WX.seqN ?_
        refine WC.seq ?_
        refine WC.region ?_
        refine WL.op (d := 72) (.slice Ao out.length co) (by as_aux_lemma => kernel_rfl) (by as_aux_lemma => kernel_rfl) (by as_aux_lemma => kernel_rfl) rfl (by as_aux_lemma => kernel_rfl) (k := ?_)
        refine WL.op (d := 4) (.slice Ao out.length co) (by as_aux_lemma => kernel_rfl) (by as_aux_lemma => kernel_rfl) (by as_aux_lemma => kernel_rfl) rfl (by as_aux_lemma => kernel_rfl) (k := ?_)
        refine WL.op (d := 5) (.int .i64 0) (by as_aux_lemma => kernel_rfl) (by as_aux_lemma => kernel_rfl) (by as_aux_lemma => kernel_rfl) rfl (by as_aux_lemma => kernel_rfl) (k := ?_)
        refine WL.nil ?_
        refine WX.seqN ?_
        refine WC.ret ?_
        refine WX.ret (rs := [.tmp 4, .tmp 5]) [.slice Ao out.length co, .int .i64 0] (.tuple #[.slice Ao out.length co, .int .i64 0]) ⟨(by as_aux_lemma => kernel_rfl), (by as_aux_lemma => kernel_rfl), trivial⟩ rfl rfl (k := ?_)
        have e_ := scan_stop hg (by omega) (fun k_ => ph25 k_.2)
        rw [e_] at hR
        exact absurd (by show GDisk.readE di (at_ + (out.length : Int)) = 0; omega) hR
      · have h35 : (decide (isCell (GDisk.readT di (at_ + (out.length : Int))) ∧ rdE (GDisk.readT di (at_ + (out.length : Int))) = e ∧ rdN (GDisk.readT di (at_ + (out.length : Int))) = (out.length : Int).toNat)) = true := Bool.not_inj (y := true) h24
        have ph35 := of_decide_eq_true h35
        refine WC.skip ?_
        refine WX.seqN ?_
        refine WC.seq ?_
        refine WC.region ?_
        refine WL.op (d := 51) (.string ⟨(GDisk.readT di (at_ + (out.length : Int))).toArray⟩) (by as_aux_lemma => kernel_rfl) (by as_aux_lemma => kernel_rfl) (by as_aux_lemma => kernel_rfl) rfl (by as_aux_lemma => kernel_rfl) (k := ?_)
        refine WL.callG (d := 52) (f := 32) (args := #[.string ⟨(GDisk.readT di (at_ + (out.length : Int))).toArray⟩]) (u04Read_c (l := GDisk.readT di (at_ + (out.length : Int))) (by show List.length (GDisk.readT di (at_ + (out.length : Int))) ≤ _; first | omega | (simp; done) | (simp; omega)) w22) (by as_aux_lemma => kernel_rfl) (by as_aux_lemma => kernel_rfl) (by as_aux_lemma => kernel_rfl) rfl (by as_aux_lemma => kernel_rfl) (k := fun e_ w39 h_ => ⟨.tuple #[.agg #[.string ⟨(rdP (GDisk.readT di (at_ + (out.length : Int)))).toArray⟩, .int .u64 ((rdE (GDisk.readT di (at_ + (out.length : Int))) : Nat) : Int), .int .u64 ((rdN (GDisk.readT di (at_ + (out.length : Int))) : Nat) : Int)], .bool (decide (isCell (GDisk.readT di (at_ + (out.length : Int)))))], h_.1, ?_⟩)
        have k40 := h_.2; clear h_
        replace hb6 := k40.heap hb6 id
        replace hd19 := hd19.adds k40
        replace hb11 := hb11.adds k40
        replace K := K.trans (k40.any _)
        have te36 := rdE_lt (GDisk.readT di (at_ + (out.length : Int)))
        have te37 := rdN_lt (GDisk.readT di (at_ + (out.length : Int)))
        have te38 := rdP_len (GDisk.readT di (at_ + (out.length : Int)))
        refine WL.op (d := 50) (.tuple #[.agg #[.string ⟨(rdP (GDisk.readT di (at_ + (out.length : Int)))).toArray⟩, .int .u64 ((rdE (GDisk.readT di (at_ + (out.length : Int))) : Nat) : Int), .int .u64 ((rdN (GDisk.readT di (at_ + (out.length : Int))) : Nat) : Int)], .bool (decide (isCell (GDisk.readT di (at_ + (out.length : Int)))))]) (by as_aux_lemma => kernel_rfl) (by as_aux_lemma => kernel_rfl) (by as_aux_lemma => kernel_rfl) rfl (by as_aux_lemma => kernel_rfl) (k := ?_)
        refine WL.op (d := 53) (.agg #[.string ⟨(rdP (GDisk.readT di (at_ + (out.length : Int)))).toArray⟩, .int .u64 ((rdE (GDisk.readT di (at_ + (out.length : Int))) : Nat) : Int), .int .u64 ((rdN (GDisk.readT di (at_ + (out.length : Int))) : Nat) : Int)]) (by as_aux_lemma => kernel_rfl) (by as_aux_lemma => kernel_rfl) (by as_aux_lemma => kernel_rfl) rfl (by as_aux_lemma => kernel_rfl) (k := ?_)
        refine WL.op (d := 54) (.bool (decide (isCell (GDisk.readT di (at_ + (out.length : Int)))))) (by as_aux_lemma => kernel_rfl) (by as_aux_lemma => kernel_rfl) (by as_aux_lemma => kernel_rfl) rfl (by as_aux_lemma => kernel_rfl) (k := ?_)
        refine WL.new (d := 11) (T := 72) #[.string ⟨#[]⟩, .int .u64 0, .int .u64 0] (by as_aux_lemma => kernel_rfl) (by as_aux_lemma => kernel_rfl) rfl (by as_aux_lemma => kernel_rfl) (by as_aux_lemma => kernel_rfl) (k := fun b41 w42 g43 hb44 k45 => ?_)
        have z46 := Nat.le_trans K.size g43
        have n47 : b ≠ b41 := Nat.ne_of_lt (Nat.lt_of_lt_of_le (lt_of_heap hb6) g43)
        have n48 : ¬ S b41 := fun h => absurd (hd19.lt _ h) (Nat.not_lt.2 g43)
        have n49 := OwAt.off_new hb11 g43
        replace hb6 := k45.heap hb6 id
        replace hd19 := hd19.adds k45
        replace hb11 := hb11.adds k45
        replace K := K.trans (k45.any _)
        refine WL.store (v := .agg #[.string ⟨(rdP (GDisk.readT di (at_ + (out.length : Int)))).toArray⟩, .int .u64 ((rdE (GDisk.readT di (at_ + (out.length : Int))) : Nat) : Int), .int .u64 ((rdN (GDisk.readT di (at_ + (out.length : Int))) : Nat) : Int)]) (i := 0) (cs' := #[.string ⟨(rdP (GDisk.readT di (at_ + (out.length : Int)))).toArray⟩, .int .u64 ((rdE (GDisk.readT di (at_ + (out.length : Int))) : Nat) : Int), .int .u64 ((rdN (GDisk.readT di (at_ + (out.length : Int))) : Nat) : Int)]) hb44 (by as_aux_lemma => kernel_rfl) (by as_aux_lemma => kernel_rfl) (by as_aux_lemma => kernel_rfl) (by as_aux_lemma => kernel_rfl) (by as_aux_lemma => kernel_rfl) (by as_aux_lemma => kernel_rfl) (by as_aux_lemma => kernel_rfl) (k := fun w50 hb51 k52 => ?_)
        replace hb6 := k52.heap hb6 n47
        replace hd19 := hd19.keeps k52 (fun i hi e => n48 (e ▸ hi))
        replace hb11 := hb11.keeps k52 (fun i hi e => (n49) (e ▸ hi))
        replace K := K.trans' k52 (fun i hi e => absurd (e ▸ hi) (Nat.not_lt.2 z46))
        clear hb44
        refine WL.op (d := 12) (.bool (decide (isCell (GDisk.readT di (at_ + (out.length : Int)))))) (by as_aux_lemma => kernel_rfl) (by as_aux_lemma => kernel_rfl) (by as_aux_lemma => kernel_rfl) rfl (by as_aux_lemma => kernel_rfl) (k := ?_)
        refine WL.nil ?_
        refine WX.seqN ?_
        refine WC.region ?_
        refine WL.op (d := 55) (.slice Ao out.length co) (by as_aux_lemma => kernel_rfl) (by as_aux_lemma => kernel_rfl) (by as_aux_lemma => kernel_rfl) rfl (by as_aux_lemma => kernel_rfl) (k := ?_)
        refine WL.op (d := 56) (.pointer (some ⟨b41, 0, none⟩)) (by as_aux_lemma => kernel_rfl) (by as_aux_lemma => kernel_rfl) (by as_aux_lemma => kernel_rfl) rfl (by as_aux_lemma => kernel_rfl) (k := ?_)
        refine WL.load (v := .string ⟨(rdP (GDisk.readT di (at_ + (out.length : Int)))).toArray⟩) (ld1 (T := 9) (i := 0) hb51 (by as_aux_lemma => kernel_rfl) (by as_aux_lemma => kernel_rfl)) (by as_aux_lemma => kernel_rfl) (by as_aux_lemma => kernel_rfl) (by as_aux_lemma => kernel_rfl) (k := ?_)
        refine WL.newF (d := 58) (T := 9) #[.string ⟨(rdP (GDisk.readT di (at_ + (out.length : Int)))).toArray⟩] (fun b => .slice (some ⟨b, 0, none⟩) 1 1) (by as_aux_lemma => kernel_rfl) (by as_aux_lemma => kernel_rfl) rfl (by as_aux_lemma => kernel_rfl) (by as_aux_lemma => kernel_rfl) (k := fun b53 w54 g55 hb56 k57 => ?_)
        have z58 := Nat.le_trans K.size g55
        have n59 : b ≠ b53 := Nat.ne_of_lt (Nat.lt_of_lt_of_le (lt_of_heap hb6) g55)
        have n60 : ¬ S b53 := fun h => absurd (hd19.lt _ h) (Nat.not_lt.2 g55)
        have n61 := OwAt.off_new hb11 g55
        have n62 : b41 ≠ b53 := Nat.ne_of_lt (Nat.lt_of_lt_of_le (lt_of_heap hb51) g55)
        replace hb6 := k57.heap hb6 id
        replace hd19 := hd19.adds k57
        replace hb11 := hb11.adds k57
        replace hb51 := k57.heap hb51 id
        replace K := K.trans (k57.any _)
        refine WL.append (d := 59) (T := 36) (cl := strC) (xs := out) (ys := [rdP (GDisk.readT di (at_ + (out.length : Int)))]) (c := 1) ekStr hb11 (SlAt.of_lit (ys := [rdP (GDisk.readT di (at_ + (out.length : Int)))]) ekStr hb56 (by as_aux_lemma => kernel_rfl)) (by first | omega | (simp; omega)) (k := fun A63 c64 w65 ho66 k67 n68 => ?_)
        have ol69 := olink_step ol12 K n68
        have n70 := fp_step n68 n10 hd19.lt
        have n71 := off_step n68 n49 (lt_of_heap hb51)
        replace hb6 := k67.heap hb6 (hb11.offT hb6 (by decide))
        replace hd19 := hd19.keeps k67 (fun i hi e => n10 i e hi)
        replace hb51 := k67.heap hb51 n49
        replace K := K.trans' k67 (fun i hi e => absurd hi (Nat.not_lt.2 (ol12 i e)))
        clear hb11
        refine WL.op (d := 6) (.slice A63 ((out ++ [rdP (GDisk.readT di (at_ + (out.length : Int)))]).length) c64) (by as_aux_lemma => kernel_rfl) (by as_aux_lemma => kernel_rfl) (by as_aux_lemma => kernel_rfl) rfl (by as_aux_lemma => kernel_rfl) (k := ?_)
        refine WL.nil ?_
        refine WX.blockN ?_
        refine WX.seqN ?_
        refine WC.region ?_
        refine WL.op (d := 24) (.int .i64 (out.length : Int)) (by as_aux_lemma => kernel_rfl) (by as_aux_lemma => kernel_rfl) (by as_aux_lemma => kernel_rfl) rfl (by as_aux_lemma => kernel_rfl) (k := ?_)
        refine WL.opE (d := 25) (.int .i64 (IntKind.i64.wrap ((out.length : Int) + 1))) (v := .int .i64 ((out.length : Int) + 1)) (congrArg (Value.int .i64) (IntWalk.i64_in _ (by omega))) (by as_aux_lemma => kernel_rfl) (by as_aux_lemma => kernel_rfl) (by as_aux_lemma => kernel_rfl) rfl (by as_aux_lemma => kernel_rfl) (k := ?_)
        refine WL.op (d := 7) (.int .i64 ((out.length : Int) + 1)) (by as_aux_lemma => kernel_rfl) (by as_aux_lemma => kernel_rfl) (by as_aux_lemma => kernel_rfl) rfl (by as_aux_lemma => kernel_rfl) (k := ?_)
        refine WL.nil ?_
        have z_ : GDisk.readE di (at_ + (out.length : Int)) = 0 := by omega
        have p_ := ph35
        obtain ⟨e1_, e2_⟩ := GDisk.rec_ok (i := (out.length : Int).toNat) z_ p_
        rw [← e1_] at ho66
        refine WX.rw (t := 6) (v := .slice A63 ((out ++ [GDisk.recT di (at_ + (out.length : Int)) e (out.length : Int).toNat]).length) c64) (congrArg (fun l => Value.slice A63 (List.length (out ++ [l])) c64) e1_.symm) (by as_aux_lemma => kernel_rfl) (k := ?_)
        refine WX.rw (t := 7) (v := .int .i64 ((out ++ [GDisk.recT di (at_ + (out.length : Int)) e (out.length : Int).toNat]).length : Int)) (congrArg (Value.int .i64) (by rw [List.length_append, List.length_singleton])) (by as_aux_lemma => kernel_rfl) (k := ?_)
        have lx_ : List.length (out ++ [GDisk.recT di (at_ + (out.length : Int)) e (out.length : Int).toNat]) = out.length + 1 := by simp
        refine WX.round (out ++ [GDisk.recT di (at_ + (out.length : Int)) e (out.length : Int).toNat], A63, c64, GDisk.readD di (at_ + (out.length : Int))) (by show (n.toNat - List.length (out ++ [GDisk.recT di (at_ + (out.length : Int)) e (out.length : Int).toNat])) < (n.toNat - List.length out); omega) ⟨(by as_aux_lemma => kernel_rfl), (by as_aux_lemma => kernel_rfl), (by as_aux_lemma => kernel_rfl), (by as_aux_lemma => kernel_rfl), (by as_aux_lemma => kernel_rfl), (by as_aux_lemma => kernel_rfl), (by as_aux_lemma => kernel_rfl), (by as_aux_lemma => kernel_rfl), (by as_aux_lemma => kernel_rfl), trivial⟩ ⟨K, hb6, hd19, lk8, n9, n70, ho66, ol69, (scan_go hg (by omega) (of_decide_eq_true e2_)), (by omega)⟩
  · have ph13 := of_decide_eq_false h13
    refine WC.exit ?_
    refine WX.seqE ?_
    refine WX.seqE ?_
    refine WX.blockE ?_
    refine WX.seqN ?_
    refine WC.seq ?_
    refine WC.region ?_
    refine WL.op (d := 60) (.pointer (some ⟨b, 0, none⟩)) (by as_aux_lemma => kernel_rfl) (by as_aux_lemma => kernel_rfl) (by as_aux_lemma => kernel_rfl) rfl (by as_aux_lemma => kernel_rfl) (k := ?_)
    refine WL.op (d := 61) (.pointer (some ⟨b, 0, none⟩)) (by as_aux_lemma => kernel_rfl) (by as_aux_lemma => kernel_rfl) (by as_aux_lemma => kernel_rfl) rfl (by as_aux_lemma => kernel_rfl) (k := ?_)
    refine WL.op (d := 62) (.pointer (some ⟨b, 3, none⟩)) (by as_aux_lemma => kernel_rfl) (by as_aux_lemma => kernel_rfl) (by as_aux_lemma => kernel_rfl) rfl (by as_aux_lemma => kernel_rfl) (k := ?_)
    refine WL.store (v := .bool true) (i := 3) (cs' := #[.pointer (some ⟨dk, 0, none⟩), .int .i64 at_, .int .i64 n, .bool true, .int .u64 ((ep : Nat) : Int), .int .i64 (ln : Int)]) hb6 (by as_aux_lemma => kernel_rfl) (by as_aux_lemma => kernel_rfl) (by as_aux_lemma => kernel_rfl) (by as_aux_lemma => kernel_rfl) (by as_aux_lemma => kernel_rfl) (by as_aux_lemma => kernel_rfl) (by as_aux_lemma => kernel_rfl) (k := fun w72 hb73 k74 => ?_)
    replace hb7 := hb7.keeps k74 (fun i hi e => n9 (e ▸ hi))
    replace hb11 := hb11.keeps k74 (fun i hi e => (hb11.offT hb6 (by decide)) (e ▸ hi))
    replace K := K.trans' k74 (fun i hi e => .inl e)
    clear hb6
    refine WL.nil ?_
    refine WX.seqN ?_
    refine WC.seq ?_
    refine WC.region ?_
    refine WL.op (d := 63) (.pointer (some ⟨b, 0, none⟩)) (by as_aux_lemma => kernel_rfl) (by as_aux_lemma => kernel_rfl) (by as_aux_lemma => kernel_rfl) rfl (by as_aux_lemma => kernel_rfl) (k := ?_)
    refine WL.op (d := 64) (.int .u64 ((e : Nat) : Int)) (by as_aux_lemma => kernel_rfl) (by as_aux_lemma => kernel_rfl) (by as_aux_lemma => kernel_rfl) rfl (by as_aux_lemma => kernel_rfl) (k := ?_)
    refine WL.op (d := 65) (.pointer (some ⟨b, 0, none⟩)) (by as_aux_lemma => kernel_rfl) (by as_aux_lemma => kernel_rfl) (by as_aux_lemma => kernel_rfl) rfl (by as_aux_lemma => kernel_rfl) (k := ?_)
    refine WL.op (d := 66) (.pointer (some ⟨b, 4, none⟩)) (by as_aux_lemma => kernel_rfl) (by as_aux_lemma => kernel_rfl) (by as_aux_lemma => kernel_rfl) rfl (by as_aux_lemma => kernel_rfl) (k := ?_)
    refine WL.store (v := .int .u64 ((e : Nat) : Int)) (i := 4) (cs' := #[.pointer (some ⟨dk, 0, none⟩), .int .i64 at_, .int .i64 n, .bool true, .int .u64 ((e : Nat) : Int), .int .i64 (ln : Int)]) hb73 (by as_aux_lemma => kernel_rfl) (by as_aux_lemma => kernel_rfl) (by as_aux_lemma => kernel_rfl) (by as_aux_lemma => kernel_rfl) (by as_aux_lemma => kernel_rfl) (by as_aux_lemma => kernel_rfl) (by as_aux_lemma => kernel_rfl) (k := fun w75 hb76 k77 => ?_)
    replace hb7 := hb7.keeps k77 (fun i hi e => n9 (e ▸ hi))
    replace hb11 := hb11.keeps k77 (fun i hi e => (hb11.offT hb73 (by decide)) (e ▸ hi))
    replace K := K.trans' k77 (fun i hi e => .inl e)
    clear hb73
    refine WL.nil ?_
    refine WX.seqN ?_
    refine WC.seq ?_
    refine WC.region ?_
    refine WL.op (d := 67) (.pointer (some ⟨b, 0, none⟩)) (by as_aux_lemma => kernel_rfl) (by as_aux_lemma => kernel_rfl) (by as_aux_lemma => kernel_rfl) rfl (by as_aux_lemma => kernel_rfl) (k := ?_)
    refine WL.op (d := 68) (.slice Ao out.length co) (by as_aux_lemma => kernel_rfl) (by as_aux_lemma => kernel_rfl) (by as_aux_lemma => kernel_rfl) rfl (by as_aux_lemma => kernel_rfl) (k := ?_)
    refine WL.op (d := 69) (.int .i64 (out.length : Int)) (by as_aux_lemma => kernel_rfl) (by as_aux_lemma => kernel_rfl) (by as_aux_lemma => kernel_rfl) rfl (by as_aux_lemma => kernel_rfl) (k := ?_)
    refine WL.op (d := 70) (.pointer (some ⟨b, 0, none⟩)) (by as_aux_lemma => kernel_rfl) (by as_aux_lemma => kernel_rfl) (by as_aux_lemma => kernel_rfl) rfl (by as_aux_lemma => kernel_rfl) (k := ?_)
    refine WL.op (d := 71) (.pointer (some ⟨b, 5, none⟩)) (by as_aux_lemma => kernel_rfl) (by as_aux_lemma => kernel_rfl) (by as_aux_lemma => kernel_rfl) rfl (by as_aux_lemma => kernel_rfl) (k := ?_)
    refine WL.store (v := .int .i64 (out.length : Int)) (i := 5) (cs' := #[.pointer (some ⟨dk, 0, none⟩), .int .i64 at_, .int .i64 n, .bool true, .int .u64 ((e : Nat) : Int), .int .i64 (out.length : Int)]) hb76 (by as_aux_lemma => kernel_rfl) (by as_aux_lemma => kernel_rfl) (by as_aux_lemma => kernel_rfl) (by as_aux_lemma => kernel_rfl) (by as_aux_lemma => kernel_rfl) (by as_aux_lemma => kernel_rfl) (by as_aux_lemma => kernel_rfl) (k := fun w78 hb79 k80 => ?_)
    replace hb7 := hb7.keeps k80 (fun i hi e => n9 (e ▸ hi))
    replace hb11 := hb11.keeps k80 (fun i hi e => (hb11.offT hb76 (by decide)) (e ▸ hi))
    replace K := K.trans' k80 (fun i hi e => .inl e)
    clear hb76
    refine WL.nil ?_
    refine WX.seqN ?_
    refine WC.seq ?_
    refine WC.region ?_
    refine WL.op (d := 72) (.slice Ao out.length co) (by as_aux_lemma => kernel_rfl) (by as_aux_lemma => kernel_rfl) (by as_aux_lemma => kernel_rfl) rfl (by as_aux_lemma => kernel_rfl) (k := ?_)
    refine WL.op (d := 4) (.slice Ao out.length co) (by as_aux_lemma => kernel_rfl) (by as_aux_lemma => kernel_rfl) (by as_aux_lemma => kernel_rfl) rfl (by as_aux_lemma => kernel_rfl) (k := ?_)
    refine WL.op (d := 5) (.int .i64 0) (by as_aux_lemma => kernel_rfl) (by as_aux_lemma => kernel_rfl) (by as_aux_lemma => kernel_rfl) rfl (by as_aux_lemma => kernel_rfl) (k := ?_)
    refine WL.nil ?_
    refine WX.seqN ?_
    refine WC.ret ?_
    refine WX.ret (rs := [.tmp 4, .tmp 5]) [.slice Ao out.length co, .int .i64 0] (.tuple #[.slice Ao out.length co, .int .i64 0]) ⟨(by as_aux_lemma => kernel_rfl), (by as_aux_lemma => kernel_rfl), trivial⟩ rfl rfl (k := ?_)
    have e_ := scan_end hg (by omega)
    rw [e_] at hR
    exact absurd rfl hR
set_option maxRecDepth 100000 in
set_option maxHeartbeats 4000000 in
theorem rlScan_zero {b : Nat} {w : World} : Calls Tryz.prog 10 #[.pointer (some ⟨b, 0, none⟩), .int .u64 0] w fun e_ w' => e_ = .returned (.tuple #[.slice none 0 0, .int .i64 1]) ∧ Adds w w' := by
  have K : Keeps (fun _ => False) w w := Keeps.refl _ w
  refine Calls.start Tryz.func10 rfl (by as_aux_lemma => kernel_rfl) ?_
  refine WC.seq ?_
  refine WC.region ?_
  refine WL.op (d := 4) (.slice none 0 0) (by as_aux_lemma => kernel_rfl) (by as_aux_lemma => kernel_rfl) (by as_aux_lemma => kernel_rfl) rfl (by as_aux_lemma => kernel_rfl) (k := ?_)
  refine WL.op (d := 5) (.int .i64 0) (by as_aux_lemma => kernel_rfl) (by as_aux_lemma => kernel_rfl) (by as_aux_lemma => kernel_rfl) rfl (by as_aux_lemma => kernel_rfl) (k := ?_)
  refine WL.nil ?_
  refine WX.seqN ?_
  refine WC.seq ?_
  refine WC.seq ?_
  refine WC.region ?_
  refine WL.op (d := 13) (.int .u64 0) (by as_aux_lemma => kernel_rfl) (by as_aux_lemma => kernel_rfl) (by as_aux_lemma => kernel_rfl) rfl (by as_aux_lemma => kernel_rfl) (k := ?_)
  refine WL.op (d := 14) (.bool true) (by as_aux_lemma => kernel_rfl) (by as_aux_lemma => kernel_rfl) (by as_aux_lemma => kernel_rfl) rfl (by as_aux_lemma => kernel_rfl) (k := ?_)
  refine WL.nil ?_
  refine WX.seqN ?_
  refine WC.condT (by as_aux_lemma => kernel_rfl) (k := ?_)
  refine WC.seq ?_
  refine WC.region ?_
  refine WL.op (d := 4) (.slice none 0 0) (by as_aux_lemma => kernel_rfl) (by as_aux_lemma => kernel_rfl) (by as_aux_lemma => kernel_rfl) rfl (by as_aux_lemma => kernel_rfl) (k := ?_)
  refine WL.op (d := 5) (.int .i64 1) (by as_aux_lemma => kernel_rfl) (by as_aux_lemma => kernel_rfl) (by as_aux_lemma => kernel_rfl) rfl (by as_aux_lemma => kernel_rfl) (k := ?_)
  refine WL.nil ?_
  refine WX.seqN ?_
  refine WC.ret ?_
  refine WX.seqR ?_
  refine WX.ret (rs := [.tmp 4, .tmp 5]) [.slice none 0 0, .int .i64 1] (.tuple #[.slice none 0 0, .int .i64 1]) ⟨(by as_aux_lemma => kernel_rfl), (by as_aux_lemma => kernel_rfl), trivial⟩ rfl rfl (k := ?_)
  exact ⟨rfl, K⟩
set_option maxRecDepth 100000 in
set_option maxHeartbeats 4000000 in
theorem rlNew_c {dk : Nat} {at_ n : Int} (w : World) : Calls Tryz.prog 8 #[.pointer (some ⟨dk, 0, none⟩), .int .i64 at_, .int .i64 n] w fun e w' => ∃ b, e = .returned (.pointer (some ⟨b, 0, none⟩)) ∧ w.heap.size ≤ b ∧ w'.heap[b]? = some (.cells #[.pointer (some ⟨dk, 0, none⟩), .int .i64 at_, .int .i64 n, .bool false, .int .u64 0, .int .i64 0] 63 (0, 0)) ∧ Adds w w' := by
  have K : Keeps (fun _ => False) w w := Keeps.refl _ w
  refine Calls.start Tryz.func8 rfl (by as_aux_lemma => kernel_rfl) ?_
  refine WC.seq ?_
  refine WC.region ?_
  refine WL.op (d := 6) (.pointer none) (by as_aux_lemma => kernel_rfl) (by as_aux_lemma => kernel_rfl) (by as_aux_lemma => kernel_rfl) rfl (by as_aux_lemma => kernel_rfl) (k := ?_)
  refine WL.nil ?_
  refine WX.seqN ?_
  refine WC.seq ?_
  refine WC.region ?_
  refine WL.op (d := 7) (.pointer (some ⟨dk, 0, none⟩)) (by as_aux_lemma => kernel_rfl) (by as_aux_lemma => kernel_rfl) (by as_aux_lemma => kernel_rfl) rfl (by as_aux_lemma => kernel_rfl) (k := ?_)
  refine WL.op (d := 8) (.int .i64 at_) (by as_aux_lemma => kernel_rfl) (by as_aux_lemma => kernel_rfl) (by as_aux_lemma => kernel_rfl) rfl (by as_aux_lemma => kernel_rfl) (k := ?_)
  refine WL.op (d := 9) (.int .i64 n) (by as_aux_lemma => kernel_rfl) (by as_aux_lemma => kernel_rfl) (by as_aux_lemma => kernel_rfl) rfl (by as_aux_lemma => kernel_rfl) (k := ?_)
  refine WL.op (d := 10) (.agg #[.pointer (some ⟨dk, 0, none⟩), .int .i64 at_, .int .i64 n, .bool false, .int .u64 0, .int .i64 0]) (by as_aux_lemma => kernel_rfl) (by as_aux_lemma => kernel_rfl) (by as_aux_lemma => kernel_rfl) rfl (by as_aux_lemma => kernel_rfl) (k := ?_)
  refine WL.new (d := 11) (T := 63) #[.pointer (some ⟨dk, 0, none⟩), .int .i64 at_, .int .i64 n, .bool false, .int .u64 0, .int .i64 0] (by as_aux_lemma => kernel_rfl) (by as_aux_lemma => kernel_rfl) rfl (by as_aux_lemma => kernel_rfl) (by as_aux_lemma => kernel_rfl) (k := fun b1 w2 g3 hb4 k5 => ?_)
  have z6 := Nat.le_trans K.size g3
  replace K := K.trans (k5.any _)
  refine WL.op (d := 6) (.pointer (some ⟨b1, 0, none⟩)) (by as_aux_lemma => kernel_rfl) (by as_aux_lemma => kernel_rfl) (by as_aux_lemma => kernel_rfl) rfl (by as_aux_lemma => kernel_rfl) (k := ?_)
  refine WL.nil ?_
  refine WX.seqN ?_
  refine WC.ret ?_
  refine WX.ret (rs := [.tmp 6]) [.pointer (some ⟨b1, 0, none⟩)] (.pointer (some ⟨b1, 0, none⟩)) ⟨(by as_aux_lemma => kernel_rfl), trivial⟩ rfl rfl (k := ?_)
  exact ⟨_, rfl, z6, hb4, K⟩
end Go.Proofs.YtnkkbeafcfjkmaaGreatDoor
namespace Go.Proofs.YtnkkbeafcfjkmaaGreatDoor
open Go.RowKit
set_option linter.unusedVariables false
set_option linter.unusedSimpArgs false
def stV : Option (Nat × Nat) → Value
  | none => .iface 56 (.agg #[])
  | some (e, r) => .iface 67 (.agg #[.int .u64 (e : Int), .int .i64 (r : Int)])
structure ApX where
  bad : Int
  st : Option (Nat × Nat)
  d : GDisk
def apG (at_ n : Int) (l : List UInt8) (d : GDisk) : Option (Nat × Nat) → ApX
  | none => ⟨13, none, d⟩
  | some (e, r) => if n ≤ (r : Int) then ⟨22, some (e, r), d⟩ else ⟨d.wrsE (at_ + (r : Int)) (makeS l e r), if d.wrsE (at_ + (r : Int)) (makeS l e r) = 0 then some (e, r + 1) else none, d.wrsD (at_ + (r : Int)) (makeS l e r)⟩
def apF (at_ n : Int) (st : Option (Nat × Nat)) (l : List UInt8) (d : GDisk) : ApX := if 43 < l.length then ⟨1, st, d⟩ else apG at_ n l d st
structure ScX where
  xs : List (List UInt8)
  bad : Int
  st : Option (Nat × Nat)
  d : GDisk
def scF (at_ n : Int) (e : Nat) (d : GDisk) : ScX :=
  if (scanGo at_ e n.toNat d []).2.1 = 0 then ⟨(scanGo at_ e n.toNat d []).1, 0, some (e, (scanGo at_ e n.toNat d []).1.length), (scanGo at_ e n.toNat d []).2.2⟩ else ⟨[], (scanGo at_ e n.toNat d []).2.1, none, (scanGo at_ e n.toNat d []).2.2⟩
def lfF (n : Int) : Option (Nat × Nat) → Int
  | none => 0
  | some (_, r) => n - (r : Int)
def lnF : Option (Nat × Nat) → Int
  | none => 0
  | some (_, r) => (r : Int)
section
variable {S : Nat → Prop} {b dk : Nat} {d : GDisk} {at_ k n la : Int} {w : World}
theorem wlApp_all {st : Option (Nat × Nat)} {l : List UInt8} {X : ApX} (hX : apF at_ n st l d = X) (hb : w.heap[b]? = some (.cells #[.pointer (some ⟨dk, 0, none⟩), .int .i64 at_, .int .i64 n, stV st] 60 (0, 0))) (hd : DiskAt S dk d w) (hnb : ¬ S b) (a0 : 0 ≤ at_) (a1 : at_ ≤ 1024) (hst : ∀ e r, st = some (e, r) → e < 18446744073709551616 ∧ r ≤ 1024) (hm : d.opn.length < 1000000) :
    Calls Tryz.prog 18 #[.pointer (some ⟨b, 0, none⟩), .string ⟨l.toArray⟩] w fun e w' => ∃ S', e = .returned (.int .i64 X.bad) ∧ w'.heap[b]? = some (.cells #[.pointer (some ⟨dk, 0, none⟩), .int .i64 at_, .int .i64 n, stV X.st] 60 (0, 0)) ∧ DiskAt S' dk X.d w' ∧ (∀ k, S' k → S k ∨ w.heap.size ≤ k) ∧ ¬ S' b ∧ Keeps (fun k => k = b ∨ S k) w w' := by
  subst hX
  by_cases hl : 43 < l.length
  · rw [apF, if_pos hl]
    refine (wlAppend_long hb hd hnb hl).mono ?_
    rintro e w' ⟨g1, g2⟩
    exact ⟨S, g1, g2.heap hb id, hd.adds g2, fun _ h => .inl h, hnb, g2.any _⟩
  · rw [apF, if_neg hl]
    rcases st with _ | ⟨e, r⟩
    · refine (wlAppend_shut hb hd hnb (by omega)).mono ?_
      rintro e w' ⟨g1, g2⟩
      exact ⟨S, g1, g2.heap hb id, hd.adds g2, fun _ h => .inl h, hnb, g2.any _⟩
    · obtain ⟨he, hr⟩ := hst e r rfl
      by_cases hn : n ≤ (r : Int)
      · rw [apG, if_pos hn]
        refine (wlAppend_full (e := e) (r := (r : Int)) hb hd hnb (by omega) hn).mono ?_
        rintro e w' ⟨g1, g2⟩
        exact ⟨S, g1, g2.heap hb id, hd.adds g2, fun _ h => .inl h, hnb, g2.any _⟩
      · rw [apG, if_neg hn]
        by_cases hE : d.wrsE (at_ + (r : Int)) (makeS l e r) = 0
        · refine (wlAppend_ok (e := e) (r := (r : Int)) (l := l) hb hd hnb (by omega) a0 a1 (by omega) (by omega) he hm (by omega) (by rw [Int.toNat_natCast]; exact hE)).mono ?_
          rintro e_ w' ⟨g1, g2, S', g3, g4, g5, g6⟩
          rw [Int.toNat_natCast] at g3
          refine ⟨S', by rw [hE]; exact g1, ?_, g3, g4, g5, g6⟩
          rw [if_pos hE]; exact g2
        · refine (wlAppend_no (e := e) (r := (r : Int)) (l := l) hb hd hnb (by omega) a0 a1 (by omega) (by omega) he hm (by omega) (by rw [Int.toNat_natCast]; exact hE)).mono ?_
          rintro e_ w' ⟨g1, g2, S', g3, g4, g5, g6⟩
          rw [Int.toNat_natCast] at g3 g1
          refine ⟨S', g1, ?_, g3, g4, g5, g6⟩
          rw [if_neg hE]; exact g2
theorem wlScan_all {e : Nat} {stv : Value} {X : ScX} (hX : scF at_ n e d = X) (hb : w.heap[b]? = some (.cells #[.pointer (some ⟨dk, 0, none⟩), .int .i64 at_, .int .i64 n, stv] 60 (0, 0))) (hd : DiskAt S dk d w) (hnb : ¬ S b) (a0 : 0 ≤ at_) (a1 : at_ ≤ 1024) (n1 : n ≤ 1024) (he : ¬ e = 0) (he2 : e < 18446744073709551616) :
    Calls Tryz.prog 9 #[.pointer (some ⟨b, 0, none⟩), .int .u64 (e : Int)] w fun e_ w' => ∃ A c, e_ = .returned (.tuple #[.slice A X.xs.length c, .int .i64 X.bad]) ∧ w'.heap[b]? = some (.cells #[.pointer (some ⟨dk, 0, none⟩), .int .i64 at_, .int .i64 n, stV X.st] 60 (0, 0)) ∧ OwAt strC 1 9 A c X.xs w' ∧ (∀ i, blk A = some i → w.heap.size ≤ i) ∧ DiskAt S dk X.d w' ∧ (∀ i, blk A = some i → ¬ S i) ∧ Keeps (fun k => k = b ∨ S k) w w' := by
  subst hX
  by_cases h : (scanGo at_ e n.toNat d []).2.1 = 0
  · rw [scF, if_pos h]
    exact wlScan_ok hb hd hnb a0 a1 n1 he he2 h
  · rw [scF, if_neg h]
    refine (wlScan_no hb hd hnb a0 a1 n1 he he2 h).mono ?_
    rintro e_ w' ⟨g1, g2, g3, g4⟩
    exact ⟨none, 0, g1, g2, OwAt.nil, by simp [blk], g3, by simp [blk], g4⟩
theorem wlLeft_all {v0 v1 : Value} {st : Option (Nat × Nat)} (hb : w.heap[b]? = some (.cells #[v0, v1, .int .i64 n, stV st] 60 (0, 0))) (hn : 0 ≤ n ∧ n ≤ 1024) (hst : ∀ e r, st = some (e, r) → r ≤ 1024) : Calls Tryz.prog 21 #[.pointer (some ⟨b, 0, none⟩)] w fun e w' => e = .returned (.int .i64 (lfF n st)) ∧ Adds w w' := by
  rcases st with _ | ⟨e, r⟩
  · exact wlLeft_shut hb
  · have := hst e r rfl
    exact wlLeft_open (e := e) (r := (r : Int)) hb hn (by omega)
end
end Go.Proofs.YtnkkbeafcfjkmaaGreatDoor
namespace Go.Proofs.YtnkkbeafcfjkmaaGreatDoor
open Go.RowKit
set_option linter.unusedVariables false
set_option linter.unusedSimpArgs false
structure FpOk (A : (Nat → Prop) → World → Prop) : Prop where
  keeps : ∀ {S S' : Nat → Prop} {w w' : World}, A S w → Keeps S' w w' → (∀ i, S i → ¬ S' i) → A S w'
  lt : ∀ {S : Nat → Prop} {w : World}, A S w → ∀ i, S i → i < w.heap.size
def Duo (A B : (Nat → Prop) → World → Prop) (S : Nat → Prop) (w : World) : Prop := ∃ Sa Sb, A Sa w ∧ B Sb w ∧ (∀ i, Sa i → ¬ Sb i) ∧ ∀ i, S i ↔ Sa i ∨ Sb i
section
variable {A A' B B' : (Nat → Prop) → World → Prop} {S : Nat → Prop} {w : World}
theorem Duo.fp (hA : FpOk A) (hB : FpOk B) : FpOk (Duo A B) where
  keeps h k hn := by
    obtain ⟨Sa, Sb, h1, h2, h3, h4⟩ := h
    exact ⟨Sa, Sb, hA.keeps h1 k (fun i hi => hn i ((h4 i).2 (.inl hi))), hB.keeps h2 k (fun i hi => hn i ((h4 i).2 (.inr hi))), h3, h4⟩
  lt h i hi := by
    obtain ⟨Sa, Sb, h1, h2, h3, h4⟩ := h
    rcases (h4 i).1 hi with hi | hi
    · exact hA.lt h1 i hi
    · exact hB.lt h2 i hi
theorem Duo.l (hB : FpOk B) (h : Duo A B S w) : ∃ Sa, A Sa w ∧ (∀ i, Sa i → S i) ∧ ∀ (A' : (Nat → Prop) → World → Prop) (Sa' : Nat → Prop) (w' : World), A' Sa' w' → (∀ i, Sa' i → Sa i ∨ w.heap.size ≤ i) → Keeps Sa w w' → ∃ S', Duo A' B S' w' ∧ (∀ i, S' i → Sa' i ∨ S i) ∧ (∀ i, S' i → S i ∨ w.heap.size ≤ i) ∧ Keeps S w w' := by
  obtain ⟨Sa, Sb, h1, h2, h3, h4⟩ := h
  refine ⟨Sa, h1, fun i hi => (h4 i).2 (.inl hi), fun A' Sa' w' g1 lk k => ⟨fun i => Sa' i ∨ Sb i, ⟨Sa', Sb, g1, hB.keeps h2 k (fun i hb ha => h3 i ha hb), fun i hi hb => ?_, fun i => Iff.rfl⟩, fun i hi => hi.imp id (fun q => (h4 i).2 (.inr q)), fun i hi => ?_, k.mono fun i _ hi => (h4 i).2 (.inl hi)⟩⟩
  · rcases lk i hi with hi | hi
    · exact h3 i hi hb
    · exact absurd (hB.lt h2 i hb) (Nat.not_lt.2 hi)
  · rcases hi with hi | hi
    · exact (lk i hi).imp (fun h => (h4 i).2 (.inl h)) id
    · exact .inl ((h4 i).2 (.inr hi))
theorem Duo.swap (h : Duo A B S w) : Duo B A S w := by
  obtain ⟨Sa, Sb, h1, h2, h3, h4⟩ := h
  exact ⟨Sb, Sa, h2, h1, fun i hb ha => h3 i ha hb, fun i => (h4 i).trans Or.comm⟩
theorem Duo.r (hA : FpOk A) (h : Duo A B S w) : ∃ Sb, B Sb w ∧ (∀ i, Sb i → S i) ∧ ∀ (B' : (Nat → Prop) → World → Prop) (Sb' : Nat → Prop) (w' : World), B' Sb' w' → (∀ i, Sb' i → Sb i ∨ w.heap.size ≤ i) → Keeps Sb w w' → ∃ S', Duo A B' S' w' ∧ (∀ i, S' i → Sb' i ∨ S i) ∧ (∀ i, S' i → S i ∨ w.heap.size ≤ i) ∧ Keeps S w w' := by
  obtain ⟨Sb, h1, h2, h3⟩ := Duo.l hA h.swap
  refine ⟨Sb, h1, h2, fun B' Sb' w' g1 lk k => ?_⟩
  obtain ⟨S', q1, q2⟩ := h3 B' Sb' w' g1 lk k
  exact ⟨S', q1.swap, q2.1, q2.2⟩
end
end Go.Proofs.YtnkkbeafcfjkmaaGreatDoor
namespace Go.Proofs.YtnkkbeafcfjkmaaGreatDoor
open Go.RowKit
set_option linter.unusedVariables false
set_option linter.unusedSimpArgs false
structure PInv (n j : Nat) (st : Option (Nat × Nat)) (d : GDisk) : Prop where
  secs : d.secs.length = n + 2
  opn : d.opn.length ≤ j
  jb : j < 1000
  n0 : 1 ≤ n
  n1 : n ≤ 8
  st : ∀ e r, st = some (e, r) → e < 18446744073709551616 ∧ r ≤ n
theorem wrsD_facts (d : GDisk) (a : Int) (x : List UInt8) : (d.wrsD a x).secs.length = d.secs.length ∧ (d.wrsD a x).opn.length ≤ d.opn.length + 1 := by
  have hw : (d.writeD a x).secs.length = d.secs.length ∧ (d.writeD a x).opn.length ≤ d.opn.length + 1 := by
    unfold GDisk.writeD GDisk.tick
    split
    · exact ⟨rfl, Nat.le_succ _⟩
    · split
      · exact ⟨rfl, Nat.le_succ _⟩
      · exact ⟨rfl, by simp⟩
  unfold GDisk.wrsD
  split
  · exact hw
  · unfold GDisk.flushD GDisk.tick
    split
    · exact hw
    · exact ⟨(GDisk.puts_len _ _).trans hw.1, Nat.zero_le _⟩
theorem scan_facts {at_ : Int} {e : Nat} : ∀ (f : Nat) (d : GDisk) (out : List (List UInt8)), (scanGo at_ e f d out).1.length ≤ out.length + f ∧ (scanGo at_ e f d out).2.2.secs = d.secs ∧ (scanGo at_ e f d out).2.2.opn = d.opn
  | 0, d, out => ⟨Nat.le_refl _, rfl, rfl⟩
  | f + 1, d, out => by
    have hr : ∀ a, (d.readD a).secs = d.secs ∧ (d.readD a).opn = d.opn := fun a => by unfold GDisk.readD; split <;> exact ⟨rfl, rfl⟩
    rw [scanGo]
    split
    · obtain ⟨h1, h2, h3⟩ := scan_facts (at_ := at_) (e := e) f (d.readD (at_ + (out.length : Int))) (out ++ [d.recT (at_ + (out.length : Int)) e (out.length : Int).toNat])
      refine ⟨by rw [List.length_append, List.length_singleton] at h1; omega, h2.trans (hr _).1, h3.trans (hr _).2⟩
    · exact ⟨Nat.le_add_right _ _, (hr _).1, (hr _).2⟩
section
variable {n j : Nat} {st : Option (Nat × Nat)} {d : GDisk}
theorem PInv.app (h : PInv n j st d) (hj : j + 1 < 1000) (l : List UInt8) : PInv n (j + 1) (apF 1 (n : Int) st l d).st (apF 1 (n : Int) st l d).d := by
  obtain ⟨h1, h2, h3, h4, h5, h6⟩ := h
  by_cases hl : 43 < l.length
  · rw [apF, if_pos hl]
    exact ⟨h1, (show d.opn.length ≤ j + 1 by omega), hj, h4, h5, h6⟩
  · rw [apF, if_neg hl]
    rcases st with _ | ⟨e, r⟩
    · exact ⟨h1, (show d.opn.length ≤ j + 1 by omega), hj, h4, h5, fun e r (q : (none : Option (Nat × Nat)) = some (e, r)) => by cases q⟩
    · obtain ⟨g1, g2⟩ := h6 e r rfl
      by_cases q : (n : Int) ≤ (r : Int)
      · rw [apG, if_pos q]
        exact ⟨h1, (show d.opn.length ≤ j + 1 by omega), hj, h4, h5, h6⟩
      · rw [apG, if_neg q]
        obtain ⟨w1, w2⟩ := wrsD_facts d (1 + (r : Int)) (makeS l e r)
        refine ⟨w1.trans h1, (show (d.wrsD (1 + (r : Int)) (makeS l e r)).opn.length ≤ j + 1 by omega), hj, h4, h5, fun e' r' k => ?_⟩
        simp only at k
        split at k
        · simp only [Option.some.injEq, Prod.mk.injEq] at k
          obtain ⟨rfl, rfl⟩ := k
          exact ⟨g1, by omega⟩
        · cases k
theorem PInv.scan (h : PInv n j st d) {e : Nat} (he : e < 18446744073709551616) : PInv n j (scF 1 (n : Int) e d).st (scF 1 (n : Int) e d).d := by
  obtain ⟨h1, h2, h3, h4, h5, h6⟩ := h
  obtain ⟨q1, q2, q3⟩ := scan_facts (at_ := 1) (e := e) (n : Int).toNat d []
  unfold scF
  split
  · refine ⟨by simp only; rw [q2]; exact h1, by simp only; rw [q3]; exact h2, h3, h4, h5, fun e' r' k => ?_⟩
    simp only [Option.some.injEq, Prod.mk.injEq] at k
    obtain ⟨rfl, rfl⟩ := k
    exact ⟨he, by simp only [List.length_nil] at q1; omega⟩
  · exact ⟨by simp only; rw [q2]; exact h1, by simp only; rw [q3]; exact h2, h3, h4, h5, fun e' r' k => by cases k⟩
theorem PInv.start (h : PInv n j st d) {e : Nat} (he : e < 18446744073709551616) : PInv n j (some (e, 0)) d :=
  ⟨h.secs, h.opn, h.jb, h.n0, h.n1, fun e' r' k => by cases k; exact ⟨he, Nat.zero_le _⟩⟩
theorem PInv.fail (h : PInv n j st d) (k : Int) : PInv n j st (d.failD k) := ⟨h.secs, h.opn, h.jb, h.n0, h.n1, h.st⟩
theorem PInv.crash (h : PInv n j st d) (fs : List (Int × Int)) : PInv n j st (d.crashD fs) := ⟨(crashN_len _).trans h.secs, Nat.zero_le _, h.jb, h.n0, h.n1, h.st⟩
end
def PgAt (dk lb n j : Nat) (st : Option (Nat × Nat)) (d : GDisk) (S : Nat → Prop) (w : World) : Prop :=
  ∃ S0, DiskAt S0 dk d w ∧ w.heap[lb]? = some (.cells #[.pointer (some ⟨dk, 0, none⟩), .int .i64 1, .int .i64 (n : Int), stV st] 60 (0, 0)) ∧ ¬ S0 lb ∧ (∀ i, S i ↔ S0 i ∨ i = lb) ∧ PInv n j st d
theorem PgAt.fp {dk lb n j : Nat} {st : Option (Nat × Nat)} {d : GDisk} : FpOk (PgAt dk lb n j st d) where
  keeps h k hn := by
    obtain ⟨S0, h1, h2, h3, h4, h5⟩ := h
    exact ⟨S0, h1.keeps k (fun i hi => hn i ((h4 i).2 (.inl hi))), k.heap h2 (hn _ ((h4 _).2 (.inr rfl))), h3, h4, h5⟩
  lt h i hi := by
    obtain ⟨S0, h1, h2, h3, h4, h5⟩ := h
    rcases (h4 i).1 hi with hi | rfl
    · exact h1.lt i hi
    · exact lt_of_heap h2
def FpPost (A : (Nat → Prop) → World → Prop) (S : Nat → Prop) (w w' : World) : Prop := ∃ S', A S' w' ∧ (∀ i, S' i → S i ∨ w.heap.size ≤ i) ∧ Keeps S w w'
section
variable {dk lb n j : Nat} {st st' : Option (Nat × Nat)} {d d' : GDisk} {S S0 : Nat → Prop} {w w' : World}
theorem pg_post (h : PgAt dk lb n j st d S w) (hS : ∀ i, S i ↔ S0 i ∨ i = lb) {S1 : Nat → Prop} {j' : Nat} (hd : DiskAt S1 dk d' w') (hb : w'.heap[lb]? = some (.cells #[.pointer (some ⟨dk, 0, none⟩), .int .i64 1, .int .i64 (n : Int), stV st'] 60 (0, 0))) (lk : ∀ i, S1 i → S0 i ∨ w.heap.size ≤ i) (hn : ¬ S1 lb) (k : Keeps (fun i => i = lb ∨ S0 i) w w') (hi : PInv n j' st' d') : FpPost (PgAt dk lb n j' st' d') S w w' :=
  ⟨fun i => S1 i ∨ i = lb, ⟨S1, hd, hb, hn, fun _ => Iff.rfl, hi⟩, fun i q => q.elim (fun q => (lk i q).imp (fun q => (hS i).2 (.inl q)) id) (fun q => .inl ((hS i).2 (.inr q))), k.mono fun i _ q => (hS i).2 (q.symm)⟩
theorem pg_app {l : List UInt8} (h : PgAt dk lb n j st d S w) (hj : j + 1 < 1000) {X : ApX} (hX : apF 1 (n : Int) st l d = X) : Calls Tryz.prog 18 #[.pointer (some ⟨lb, 0, none⟩), .string ⟨l.toArray⟩] w fun e w' => e = .returned (.int .i64 X.bad) ∧ FpPost (PgAt dk lb n (j + 1) X.st X.d) S w w' := by
  have h0 := h
  obtain ⟨S0, h1, h2, h3, h4, h5⟩ := h
  have hi := h5.app hj l
  rw [hX] at hi
  refine (wlApp_all hX h2 h1 h3 (by decide) (by decide) (fun e r q => ⟨(h5.st e r q).1, by have := (h5.st e r q).2; have := h5.n1; omega⟩) (by have := h5.opn; omega)).mono ?_
  rintro e w' ⟨S', g1, g2, g3, g4, g5, g6⟩
  exact ⟨g1, pg_post h0 h4 g3 g2 g4 g5 g6 hi⟩
theorem pg_start {e : Nat} (h : PgAt dk lb n j st d S w) (h0 : ¬ e = 0) (he : e < 18446744073709551616) : Calls Tryz.prog 12 #[.pointer (some ⟨lb, 0, none⟩), .int .u64 (e : Int)] w fun e_ w' => e_ = .returned (.int .i64 0) ∧ FpPost (PgAt dk lb n j (some (e, 0)) d) S w w' := by
  have hh := h
  obtain ⟨S0, h1, h2, h3, h4, h5⟩ := h
  refine (wlStart_ok h2 h0).mono ?_
  rintro e_ w' ⟨g1, g2, g3⟩
  exact ⟨g1, pg_post hh h4 (h1.keeps g3 (fun i hi e => h3 (e ▸ hi))) g2 (fun _ q => .inl q) h3 (g3.mono fun i _ q => .inl q) (h5.start he)⟩
theorem pg_scan {e : Nat} (h : PgAt dk lb n j st d S w) (h0 : ¬ e = 0) (he : e < 18446744073709551616) {X : ScX} (hX : scF 1 (n : Int) e d = X) : Calls Tryz.prog 9 #[.pointer (some ⟨lb, 0, none⟩), .int .u64 (e : Int)] w fun e_ w' => ∃ A c S', e_ = .returned (.tuple #[.slice A X.xs.length c, .int .i64 X.bad]) ∧ OwAt strC 1 9 A c X.xs w' ∧ (∀ i, blk A = some i → w.heap.size ≤ i) ∧ PgAt dk lb n j X.st X.d S' w' ∧ (∀ i, blk A = some i → ¬ S' i) ∧ (∀ i, S' i → S i ∨ w.heap.size ≤ i) ∧ Keeps S w w' := by
  have hh := h
  obtain ⟨S0, h1, h2, h3, h4, h5⟩ := h
  have hi := h5.scan he
  rw [hX] at hi
  refine (wlScan_all hX h2 h1 h3 (by decide) (by decide) (by have := h5.n1; omega) h0 he).mono ?_
  rintro e_ w' ⟨A, c, g1, g2, g3, g4, g5, g6, g7⟩
  refine ⟨A, c, fun i => S0 i ∨ i = lb, g1, g3, g4, ⟨S0, g5, g2, h3, fun _ => Iff.rfl, hi⟩, fun i hi q => q.elim (g6 i hi) (fun q => absurd (lt_of_heap h2) (Nat.not_lt.2 (q ▸ g4 i hi))), fun i q => .inl ((h4 i).2 q), g7.mono fun i _ q => (h4 i).2 q.symm⟩
theorem pg_fail {k : Int} (h : PgAt dk lb n j st d S w) (hk : k ≤ 9223372036854775807) : Calls Tryz.prog 14 #[.pointer (some ⟨dk, 0, none⟩), .int .i64 k] w fun e w' => e = .returned (.tuple #[]) ∧ FpPost (PgAt dk lb n j st (d.failD k)) S w w' := by
  have hh := h
  obtain ⟨S0, h1, h2, h3, h4, h5⟩ := h
  refine (dFail_c hk h1).mono ?_
  rintro e w' ⟨g1, g2, g3⟩
  exact ⟨g1, pg_post hh h4 g2 (g3.heap h2 h3) (fun _ q => .inl q) h3 (g3.mono fun i _ q => .inr q) (h5.fail k)⟩
theorem pg_crash {fs : List (Int × Int)} {A : Option Addr} {cf : Nat} (h : PgAt dk lb n j st d S w) (hF : SlAt ftC 2 81 A fs w) (hFo : fs ≠ [] → ∀ p, A = some p → ¬ S p.block) (hfl : fs.length ≤ 9223372036854775807) : Calls Tryz.prog 16 #[.pointer (some ⟨dk, 0, none⟩), .slice A fs.length cf] w fun e w' => e = .returned (.int .i64 (d.crashE fs)) ∧ FpPost (PgAt dk lb n j st (d.crashD fs)) S w w' := by
  have hh := h
  obtain ⟨S0, h1, h2, h3, h4, h5⟩ := h
  refine (dCrash_c (cf := cf) h1 hF (fun q p hp hs => hFo q p hp ((h4 _).2 (.inl hs))) hfl).mono ?_
  rintro e w' ⟨g1, S', g2, g3, g4⟩
  exact ⟨g1, pg_post hh h4 g2 (g4.heap h2 h3) g3 (fun q => (g3 _ q).elim h3 (fun q => absurd (lt_of_heap h2) (Nat.not_lt.2 q))) (g4.mono fun i _ q => .inr q) (h5.crash fs)⟩
theorem pg_left (h : PgAt dk lb n j st d S w) : Calls Tryz.prog 21 #[.pointer (some ⟨lb, 0, none⟩)] w fun e w' => e = .returned (.int .i64 (lfF (n : Int) st)) ∧ Adds w w' := by
  obtain ⟨S0, h1, h2, h3, h4, h5⟩ := h
  have := h5.n1
  exact wlLeft_all h2 (by omega) (fun e r q => by have := (h5.st e r q).2; omega)
theorem pg_len (h : PgAt dk lb n j st d S w) : Calls Tryz.prog 23 #[.pointer (some ⟨lb, 0, none⟩)] w fun e w' => e = .returned (.int .i64 (lnF st)) ∧ Adds w w' := by
  obtain ⟨S0, h1, h2, h3, h4, h5⟩ := h
  rcases st with _ | ⟨e, r⟩
  · exact wlLen_shut h2
  · exact wlLen_open (e := e) (r := (r : Int)) h2
theorem pg_disk (h : PgAt dk lb n j st d S w) : ∃ S0, DiskAt S0 dk d w := by
  obtain ⟨S0, h1, _⟩ := h; exact ⟨S0, h1⟩
end
def RlSt : Option (Nat × Nat) → Bool → Nat → Nat → Prop
  | none, op, _, _ => op = false
  | some (e, r), op, ep, ln => op = true ∧ ep = e ∧ ln = r
def RgAt (ek rb n j : Nat) (st : Option (Nat × Nat)) (d : GDisk) (S : Nat → Prop) (w : World) : Prop :=
  ∃ (S0 : Nat → Prop) (op : Bool) (ep ln : Nat), RefAt S0 ek d w ∧ w.heap[rb]? = some (.cells #[.pointer (some ⟨ek, 0, none⟩), .int .i64 1, .int .i64 (n : Int), .bool op, .int .u64 (ep : Int), .int .i64 (ln : Int)] 63 (0, 0)) ∧ ¬ S0 rb ∧ (∀ i, S i ↔ S0 i ∨ i = rb) ∧ PInv n j st d ∧ RlSt st op ep ln ∧ ln ≤ 1024
theorem RgAt.fp {ek rb n j : Nat} {st : Option (Nat × Nat)} {d : GDisk} : FpOk (RgAt ek rb n j st d) where
  keeps h k hn := by
    obtain ⟨S0, op, ep, ln, h1, h2, h3, h4, h5⟩ := h
    exact ⟨S0, op, ep, ln, h1.keeps k (fun i hi => hn i ((h4 i).2 (.inl hi))), k.heap h2 (hn _ ((h4 _).2 (.inr rfl))), h3, h4, h5⟩
  lt h i hi := by
    obtain ⟨S0, op, ep, ln, h1, h2, h3, h4, h5⟩ := h
    rcases (h4 i).1 hi with hi | rfl
    · exact h1.lt i hi
    · exact lt_of_heap h2
section
variable {ek rb n j : Nat} {st st' : Option (Nat × Nat)} {d d' : GDisk} {S S0 : Nat → Prop} {w w' : World}
theorem rg_post (h : RgAt ek rb n j st d S w) (hS : ∀ i, S i ↔ S0 i ∨ i = rb) {S1 : Nat → Prop} {j' ep ln : Nat} {op : Bool} (hd : RefAt S1 ek d' w') (hb : w'.heap[rb]? = some (.cells #[.pointer (some ⟨ek, 0, none⟩), .int .i64 1, .int .i64 (n : Int), .bool op, .int .u64 (ep : Int), .int .i64 (ln : Int)] 63 (0, 0))) (lk : ∀ i, S1 i → S0 i ∨ w.heap.size ≤ i) (hn : ¬ S1 rb) (k : Keeps (fun i => i = rb ∨ S0 i) w w') (hi : PInv n j' st' d') (hr : RlSt st' op ep ln) (hl : ln ≤ 1024) : FpPost (RgAt ek rb n j' st' d') S w w' :=
  ⟨fun i => S1 i ∨ i = rb, ⟨S1, op, ep, ln, hd, hb, hn, fun _ => Iff.rfl, hi, hr, hl⟩, fun i q => q.elim (fun q => (lk i q).imp (fun q => (hS i).2 (.inl q)) id) (fun q => .inl ((hS i).2 (.inr q))), k.mono fun i _ q => (hS i).2 (q.symm)⟩
theorem rg_app {l : List UInt8} (h : RgAt ek rb n j st d S w) (hj : j + 1 < 1000) {X : ApX} (hX : apF 1 (n : Int) st l d = X) : Calls Tryz.prog 20 #[.pointer (some ⟨rb, 0, none⟩), .string ⟨l.toArray⟩] w fun e w' => e = .returned (.int .i64 X.bad) ∧ FpPost (RgAt ek rb n (j + 1) X.st X.d) S w w' := by
  have hh := h
  obtain ⟨S0, op, ep, ln, h1, h2, h3, h4, h5, h6, h7⟩ := h
  have hi := h5.app hj l
  have hn := h5.n1
  rw [hX] at hi
  have same : ∀ {E : Int} {w' : World}, X = ⟨E, st, d⟩ → Adds w w' → FpPost (RgAt ek rb n (j + 1) X.st X.d) S w w' := fun q k => by
    subst q
    exact rg_post hh h4 (h1.adds k) (k.heap h2 id) (fun _ q => .inl q) h3 (k.any _) hi h6 h7
  unfold apF at hX
  split at hX
  · next q =>
    refine (rlApp_long h2 h1 h3 q).mono ?_
    rintro e w' ⟨g1, g2⟩
    exact ⟨by rw [g1, ← hX], same hX.symm g2⟩
  · next q =>
    rcases st with _ | ⟨e, r⟩
    · obtain rfl : op = false := h6
      refine (rlApp_shut (op := true) h2 h1 h3 (by omega)).mono ?_
      rintro e w' ⟨g1, g2⟩
      exact ⟨by rw [g1, ← hX]; rfl, same hX.symm g2⟩
    · obtain ⟨rfl, rfl, rfl⟩ := h6
      obtain ⟨he, hr⟩ := h5.st _ _ rfl
      by_cases q2 : (n : Int) ≤ (ln : Int)
      · rw [apG, if_pos q2] at hX
        refine (rlApp_full (op := true) h2 h1 h3 (by omega) q2).mono ?_
        rintro e w' ⟨g1, g2⟩
        exact ⟨by rw [g1, ← hX], same hX.symm g2⟩
      · rw [apG, if_neg q2] at hX
        refine (rlApp_go (op := true) (l := l) h2 h1 h3 (by omega) (by decide) (by decide) (by omega) he (by have := h5.opn; omega) (by omega)).mono ?_
        rintro e w' ⟨g1, g2, S', g3, g4, g5, g6⟩
        subst hX
        by_cases hE : d.wrsE (1 + (ln : Int)) (makeS l ep ln) = 0
        · rw [decide_eq_true hE, if_pos hE] at g2
          exact ⟨g1, rg_post hh h4 g3 (ln := ln + 1) (by rw [g2]; rfl) g4 g5 g6 hi (by simp only [if_pos hE]; exact ⟨rfl, rfl, rfl⟩) (by omega)⟩
        · rw [decide_eq_false hE, if_neg hE] at g2
          exact ⟨g1, rg_post hh h4 g3 g2 g4 g5 g6 hi (by simp only [if_neg hE]; rfl) h7⟩
theorem rg_start {e : Nat} (h : RgAt ek rb n j st d S w) (h0 : ¬ e = 0) (he : e < 18446744073709551616) : Calls Tryz.prog 13 #[.pointer (some ⟨rb, 0, none⟩), .int .u64 (e : Int)] w fun e_ w' => e_ = .returned (.int .i64 0) ∧ FpPost (RgAt ek rb n j (some (e, 0)) d) S w w' := by
  have hh := h
  obtain ⟨S0, op, ep, ln, h1, h2, h3, h4, h5, h6, h7⟩ := h
  refine (rlStart_c (e := e) h2 h1 h3 h0).mono ?_
  rintro e_ w' ⟨g1, g2, g3, g4⟩
  exact ⟨g1, rg_post hh h4 g3 g2 (fun _ q => .inl q) h3 g4 (h5.start he) ⟨rfl, rfl, rfl⟩ (Nat.zero_le _)⟩
theorem rg_scan {e : Nat} (h : RgAt ek rb n j st d S w) (h0 : ¬ e = 0) (he : e < 18446744073709551616) {X : ScX} (hX : scF 1 (n : Int) e d = X) : Calls Tryz.prog 10 #[.pointer (some ⟨rb, 0, none⟩), .int .u64 (e : Int)] w fun e_ w' => ∃ A c S', e_ = .returned (.tuple #[.slice A X.xs.length c, .int .i64 X.bad]) ∧ OwAt strC 1 9 A c X.xs w' ∧ (∀ i, blk A = some i → w.heap.size ≤ i) ∧ RgAt ek rb n j X.st X.d S' w' ∧ (∀ i, blk A = some i → ¬ S' i) ∧ (∀ i, S' i → S i ∨ w.heap.size ≤ i) ∧ Keeps S w w' := by
  have hh := h
  obtain ⟨S0, op, ep, ln, h1, h2, h3, h4, h5, h6, h7⟩ := h
  have hi := h5.scan he
  have hn := h5.n1
  obtain ⟨q1, _, _⟩ := scan_facts (at_ := 1) (e := e) (n : Int).toNat d []
  rw [hX] at hi
  unfold scF at hX
  split at hX
  · next q =>
    refine (rlScan_ok (e := e) h2 h1 h3 (by decide) (by decide) (by omega) h0 he q).mono ?_
    rintro e_ w' ⟨A, c, g1, g2, g3, g4, g5, g6, g7⟩
    subst hX
    exact ⟨A, c, fun i => S0 i ∨ i = rb, g1, g3, g4, ⟨S0, _, _, _, g5, g2, h3, fun _ => Iff.rfl, hi, ⟨rfl, rfl, rfl⟩, by simp only [List.length_nil] at q1; omega⟩, fun i hi q => q.elim (g6 i hi) (fun q => absurd (lt_of_heap h2) (Nat.not_lt.2 (q ▸ g4 i hi))), fun i q => .inl ((h4 i).2 q), g7.mono fun i _ q => (h4 i).2 q.symm⟩
  · next q =>
    refine (rlScan_no (e := e) h2 h1 h3 (by decide) (by decide) (by omega) h0 he q).mono ?_
    rintro e_ w' ⟨g1, g2, g3, g4⟩
    subst hX
    exact ⟨none, 0, fun i => S0 i ∨ i = rb, g1, OwAt.nil, by simp [blk], ⟨S0, _, _, _, g3, g2, h3, fun _ => Iff.rfl, hi, rfl, h7⟩, by simp [blk], fun i q => .inl ((h4 i).2 q), g4.mono fun i _ q => (h4 i).2 q.symm⟩
theorem rg_fail {k : Int} (h : RgAt ek rb n j st d S w) (hk : k ≤ 9223372036854775807) : Calls Tryz.prog 15 #[.pointer (some ⟨ek, 0, none⟩), .int .i64 k] w fun e w' => e = .returned (.tuple #[]) ∧ FpPost (RgAt ek rb n j st (d.failD k)) S w w' := by
  have hh := h
  obtain ⟨S0, op, ep, ln, h1, h2, h3, h4, h5, h6, h7⟩ := h
  refine (rdFail_c hk h1).mono ?_
  rintro e w' ⟨g1, g2, g3⟩
  exact ⟨g1, rg_post hh h4 g2 (g3.heap h2 h3) (fun _ q => .inl q) h3 (g3.mono fun i _ q => .inr q) (h5.fail k) h6 h7⟩
theorem rg_crash {fs : List (Int × Int)} {A : Option Addr} {cf : Nat} (h : RgAt ek rb n j st d S w) (hF : SlAt ftC 2 81 A fs w) (hFo : fs ≠ [] → ∀ p, A = some p → ¬ S p.block) (hfl : fs.length ≤ 9223372036854775807) : Calls Tryz.prog 17 #[.pointer (some ⟨ek, 0, none⟩), .slice A fs.length cf] w fun e w' => e = .returned (.int .i64 (d.crashE fs)) ∧ FpPost (RgAt ek rb n j st (d.crashD fs)) S w w' := by
  have hh := h
  obtain ⟨S0, op, ep, ln, h1, h2, h3, h4, h5, h6, h7⟩ := h
  refine (rdCrash_c (cf := cf) h1 hF (fun q p hp hs => hFo q p hp ((h4 _).2 (.inl hs))) hfl).mono ?_
  rintro e w' ⟨g1, S', g2, g3, g4⟩
  exact ⟨g1, rg_post hh h4 g2 (g4.heap h2 h3) g3 (fun q => (g3 _ q).elim h3 (fun q => absurd (lt_of_heap h2) (Nat.not_lt.2 q))) (g4.mono fun i _ q => .inr q) (h5.crash fs) h6 h7⟩
theorem rg_left (h : RgAt ek rb n j st d S w) : Calls Tryz.prog 22 #[.pointer (some ⟨rb, 0, none⟩)] w fun e w' => e = .returned (.int .i64 (lfF (n : Int) st)) ∧ Adds w w' := by
  obtain ⟨S0, op, ep, ln, h1, h2, h3, h4, h5, h6, h7⟩ := h
  have := h5.n1
  rcases st with _ | ⟨e, r⟩
  · obtain rfl : op = false := h6
    exact rlLeft_false h2 (by omega) h7
  · obtain ⟨rfl, rfl, rfl⟩ := h6
    exact rlLeft_true h2 (by omega) h7
theorem rg_many (h : RgAt ek rb n j st d S w) : Calls Tryz.prog 24 #[.pointer (some ⟨rb, 0, none⟩)] w fun e w' => e = .returned (.int .i64 (lnF st)) ∧ Adds w w' := by
  obtain ⟨S0, op, ep, ln, h1, h2, h3, h4, h5, h6, h7⟩ := h
  have := h5.n1
  rcases st with _ | ⟨e, r⟩
  · obtain rfl : op = false := h6
    exact rlMany_false h2 (by omega) h7
  · obtain ⟨rfl, rfl, rfl⟩ := h6
    exact rlMany_true h2 (by omega) h7
theorem rg_block (h : RgAt ek rb n j st d S w) : ∃ A1 c1 A2 c2, w.heap[ek]? = some (.cells #[.slice A1 d.secs.length c1, .slice A2 d.opn.length c2, .int .i64 d.fail, .int .i64 d.reads] 49 (0, 0)) := by
  obtain ⟨S0, op, ep, ln, ⟨A1, c1, A2, c2, hb, _⟩, _⟩ := h; exact ⟨A1, c1, A2, c2, hb⟩
end
end Go.Proofs.YtnkkbeafcfjkmaaGreatDoor
namespace Go.Proofs.YtnkkbeafcfjkmaaGreatDoor
open Go.RowKit
set_option linter.unusedVariables false
set_option linter.unusedSimpArgs false
structure PL where
  lb : Nat
  ek : Nat
  rb : Nat
  n : Nat
  j : Nat
  st : Option (Nat × Nat)
  d : GDisk
  j2 : Nat
  st2 : Option (Nat × Nat)
  d2 : GDisk
def PlAt (S : Nat → Prop) (dk : Nat) (X : PL) (w : World) : Prop := Duo (PgAt dk X.lb X.n X.j X.st X.d) (RgAt X.ek X.rb X.n X.j2 X.st2 X.d2) S w
def PlPost (S : Nat → Prop) (dk : Nat) (X : PL) (w w' : World) : Prop := ∃ S', PlAt S' dk X w' ∧ (∀ i, S' i → S i ∨ w.heap.size ≤ i) ∧ Keeps S w w'
theorem PlAt.keeps {S S' : Nat → Prop} {dk : Nat} {X : PL} {w w' : World} (h : PlAt S dk X w) (k : Keeps S' w w') (hn : ∀ i, S i → ¬ S' i) : PlAt S dk X w' := (Duo.fp PgAt.fp RgAt.fp).keeps h k hn
theorem PlAt.adds {S : Nat → Prop} {dk : Nat} {X : PL} {w w' : World} (h : PlAt S dk X w) (k : Adds w w') : PlAt S dk X w' := h.keeps k (fun _ _ x => x)
theorem PlAt.lt {S : Nat → Prop} {dk : Nat} {X : PL} {w : World} (h : PlAt S dk X w) : ∀ i, S i → i < w.heap.size := (Duo.fp PgAt.fp RgAt.fp).lt h
theorem PlAt.mem {S : Nat → Prop} {dk : Nat} {X : PL} {w : World} (h : PlAt S dk X w) : S dk := by
  obtain ⟨Sa, Sb, ⟨S0, h1, h2, h3, h4, h5⟩, _, _, h6⟩ := h
  exact (h6 dk).2 (.inl ((h4 dk).2 (.inl h1.mem)))
section
variable {S : Nat → Prop} {dk lb ek rb n j j2 : Nat} {st st2 : Option (Nat × Nat)} {d d2 : GDisk} {w : World}
theorem pl_left (h : PlAt S dk ⟨lb, ek, rb, n, j, st, d, j2, st2, d2⟩ w) : ∃ Sa, PgAt dk lb n j st d Sa w ∧ (∀ i, Sa i → S i) ∧ ∀ j' st' d' w', FpPost (PgAt dk lb n j' st' d') Sa w w' → PlPost S dk ⟨lb, ek, rb, n, j', st', d', j2, st2, d2⟩ w w' := by
  obtain ⟨Sa, h1, h2, h3⟩ := Duo.l RgAt.fp h
  refine ⟨Sa, h1, h2, fun j' st' d' w' ⟨S1, g1, g2, g3⟩ => ?_⟩
  obtain ⟨S', q1, _, q2⟩ := h3 _ S1 w' g1 g2 g3
  exact ⟨S', q1, q2⟩
theorem pl_right (h : PlAt S dk ⟨lb, ek, rb, n, j, st, d, j2, st2, d2⟩ w) : ∃ Sa, RgAt ek rb n j2 st2 d2 Sa w ∧ (∀ i, Sa i → S i) ∧ ∀ j' st' d' w', FpPost (RgAt ek rb n j' st' d') Sa w w' → PlPost S dk ⟨lb, ek, rb, n, j, st, d, j', st', d'⟩ w w' := by
  obtain ⟨Sa, h1, h2, h3⟩ := Duo.r PgAt.fp h
  refine ⟨Sa, h1, h2, fun j' st' d' w' ⟨S1, g1, g2, g3⟩ => ?_⟩
  obtain ⟨S', q1, _, q2⟩ := h3 _ S1 w' g1 g2 g3
  exact ⟨S', q1, q2⟩
theorem pl_app {l : List UInt8} {X : ApX} (h : PlAt S dk ⟨lb, ek, rb, n, j, st, d, j2, st2, d2⟩ w) (hj : j + 1 < 1000) (hX : apF 1 (n : Int) st l d = X) : Calls Tryz.prog 18 #[.pointer (some ⟨lb, 0, none⟩), .string ⟨l.toArray⟩] w fun e w' => e = .returned (.int .i64 X.bad) ∧ PlPost S dk ⟨lb, ek, rb, n, j + 1, X.st, X.d, j2, st2, d2⟩ w w' := by
  obtain ⟨Sa, h1, h2, h3⟩ := pl_left h
  exact (pg_app h1 hj hX).mono fun e w' g => ⟨g.1, h3 _ _ _ _ g.2⟩
theorem ql_app {l : List UInt8} {X : ApX} (h : PlAt S dk ⟨lb, ek, rb, n, j, st, d, j2, st2, d2⟩ w) (hj : j2 + 1 < 1000) (hX : apF 1 (n : Int) st2 l d2 = X) : Calls Tryz.prog 20 #[.pointer (some ⟨rb, 0, none⟩), .string ⟨l.toArray⟩] w fun e w' => e = .returned (.int .i64 X.bad) ∧ PlPost S dk ⟨lb, ek, rb, n, j, st, d, j2 + 1, X.st, X.d⟩ w w' := by
  obtain ⟨Sa, h1, h2, h3⟩ := pl_right h
  exact (rg_app h1 hj hX).mono fun e w' g => ⟨g.1, h3 _ _ _ _ g.2⟩
theorem pl_start {e : Nat} (h : PlAt S dk ⟨lb, ek, rb, n, j, st, d, j2, st2, d2⟩ w) (h0 : ¬ e = 0) (he : e < 18446744073709551616) : Calls Tryz.prog 12 #[.pointer (some ⟨lb, 0, none⟩), .int .u64 (e : Int)] w fun e_ w' => e_ = .returned (.int .i64 0) ∧ PlPost S dk ⟨lb, ek, rb, n, j, some (e, 0), d, j2, st2, d2⟩ w w' := by
  obtain ⟨Sa, h1, h2, h3⟩ := pl_left h
  exact (pg_start h1 h0 he).mono fun e w' g => ⟨g.1, h3 _ _ _ _ g.2⟩
theorem ql_start {e : Nat} (h : PlAt S dk ⟨lb, ek, rb, n, j, st, d, j2, st2, d2⟩ w) (h0 : ¬ e = 0) (he : e < 18446744073709551616) : Calls Tryz.prog 13 #[.pointer (some ⟨rb, 0, none⟩), .int .u64 (e : Int)] w fun e_ w' => e_ = .returned (.int .i64 0) ∧ PlPost S dk ⟨lb, ek, rb, n, j, st, d, j2, some (e, 0), d2⟩ w w' := by
  obtain ⟨Sa, h1, h2, h3⟩ := pl_right h
  exact (rg_start h1 h0 he).mono fun e w' g => ⟨g.1, h3 _ _ _ _ g.2⟩
theorem pl_start0 {e b : Nat} (h0 : e = 0) (w : World) : Calls Tryz.prog 12 #[.pointer (some ⟨b, 0, none⟩), .int .u64 (e : Int)] w fun e_ w' => e_ = .returned (.int .i64 1) ∧ Adds w w' := by subst h0; exact wlStart_zero
theorem ql_start0 {e b : Nat} (h0 : e = 0) (w : World) : Calls Tryz.prog 13 #[.pointer (some ⟨b, 0, none⟩), .int .u64 (e : Int)] w fun e_ w' => e_ = .returned (.int .i64 1) ∧ Adds w w' := by subst h0; exact rlStart_zero
theorem ql_scan0 {e b : Nat} (h0 : e = 0) (w : World) : Calls Tryz.prog 10 #[.pointer (some ⟨b, 0, none⟩), .int .u64 (e : Int)] w fun e_ w' => e_ = .returned (.tuple #[.slice none 0 0, .int .i64 1]) ∧ Adds w w' := by subst h0; exact rlScan_zero
theorem pl_scan {e : Nat} {X : ScX} (h : PlAt S dk ⟨lb, ek, rb, n, j, st, d, j2, st2, d2⟩ w) (h0 : ¬ e = 0) (he : e < 18446744073709551616) (hX : scF 1 (n : Int) e d = X) : Calls Tryz.prog 9 #[.pointer (some ⟨lb, 0, none⟩), .int .u64 (e : Int)] w fun e_ w' => ∃ A c S', e_ = .returned (.tuple #[.slice A X.xs.length c, .int .i64 X.bad]) ∧ PlAt S' dk ⟨lb, ek, rb, n, j, X.st, X.d, j2, st2, d2⟩ w' ∧ OwAt strC 1 9 A c X.xs w' ∧ (∀ i, blk A = some i → w.heap.size ≤ i) ∧ (∀ i, blk A = some i → ¬ S' i) ∧ (∀ i, S' i → S i ∨ w.heap.size ≤ i) ∧ Keeps S w w' := by
  have lt := PlAt.lt h
  obtain ⟨Sa, h1, h2, h3⟩ := Duo.l RgAt.fp h
  refine (pg_scan h1 h0 he hX).mono ?_
  rintro e_ w' ⟨A, c, S1, g1, g2, g3, g4, g5, g6, g7⟩
  obtain ⟨S', q1, q2, q3, q4⟩ := h3 _ S1 w' g4 g6 g7
  exact ⟨A, c, S', g1, q1, g2, g3, fun i hi hs => (q2 i hs).elim (g5 i hi) (fun q => absurd (lt i q) (Nat.not_lt.2 (g3 i hi))), q3, q4⟩
theorem ql_scan {e : Nat} {X : ScX} (h : PlAt S dk ⟨lb, ek, rb, n, j, st, d, j2, st2, d2⟩ w) (h0 : ¬ e = 0) (he : e < 18446744073709551616) (hX : scF 1 (n : Int) e d2 = X) : Calls Tryz.prog 10 #[.pointer (some ⟨rb, 0, none⟩), .int .u64 (e : Int)] w fun e_ w' => ∃ A c S', e_ = .returned (.tuple #[.slice A X.xs.length c, .int .i64 X.bad]) ∧ PlAt S' dk ⟨lb, ek, rb, n, j, st, d, j2, X.st, X.d⟩ w' ∧ OwAt strC 1 9 A c X.xs w' ∧ (∀ i, blk A = some i → w.heap.size ≤ i) ∧ (∀ i, blk A = some i → ¬ S' i) ∧ (∀ i, S' i → S i ∨ w.heap.size ≤ i) ∧ Keeps S w w' := by
  have lt := PlAt.lt h
  obtain ⟨Sa, h1, h2, h3⟩ := Duo.r PgAt.fp h
  refine (rg_scan h1 h0 he hX).mono ?_
  rintro e_ w' ⟨A, c, S1, g1, g2, g3, g4, g5, g6, g7⟩
  obtain ⟨S', q1, q2, q3, q4⟩ := h3 _ S1 w' g4 g6 g7
  exact ⟨A, c, S', g1, q1, g2, g3, fun i hi hs => (q2 i hs).elim (g5 i hi) (fun q => absurd (lt i q) (Nat.not_lt.2 (g3 i hi))), q3, q4⟩
theorem pl_fail {k : Int} (h : PlAt S dk ⟨lb, ek, rb, n, j, st, d, j2, st2, d2⟩ w) (hk : k ≤ 9223372036854775807) : Calls Tryz.prog 14 #[.pointer (some ⟨dk, 0, none⟩), .int .i64 k] w fun e w' => e = .returned (.tuple #[]) ∧ PlPost S dk ⟨lb, ek, rb, n, j, st, d.failD k, j2, st2, d2⟩ w w' := by
  obtain ⟨Sa, h1, h2, h3⟩ := pl_left h
  exact (pg_fail h1 hk).mono fun e w' g => ⟨g.1, h3 _ _ _ _ g.2⟩
theorem ql_fail {k : Int} (h : PlAt S dk ⟨lb, ek, rb, n, j, st, d, j2, st2, d2⟩ w) (hk : k ≤ 9223372036854775807) : Calls Tryz.prog 15 #[.pointer (some ⟨ek, 0, none⟩), .int .i64 k] w fun e w' => e = .returned (.tuple #[]) ∧ PlPost S dk ⟨lb, ek, rb, n, j, st, d, j2, st2, d2.failD k⟩ w w' := by
  obtain ⟨Sa, h1, h2, h3⟩ := pl_right h
  exact (rg_fail h1 hk).mono fun e w' g => ⟨g.1, h3 _ _ _ _ g.2⟩
theorem pl_crash {fs : List (Int × Int)} {A : Option Addr} {cf : Nat} (h : PlAt S dk ⟨lb, ek, rb, n, j, st, d, j2, st2, d2⟩ w) (hF : SlAt ftC 2 81 A fs w) (hFo : fs ≠ [] → ∀ p, A = some p → ¬ S p.block) (hfl : fs.length ≤ 9223372036854775807) : Calls Tryz.prog 16 #[.pointer (some ⟨dk, 0, none⟩), .slice A fs.length cf] w fun e w' => e = .returned (.int .i64 (d.crashE fs)) ∧ PlPost S dk ⟨lb, ek, rb, n, j, st, d.crashD fs, j2, st2, d2⟩ w w' := by
  obtain ⟨Sa, h1, h2, h3⟩ := pl_left h
  exact (pg_crash (cf := cf) h1 hF (fun q p hp hs => hFo q p hp (h2 _ hs)) hfl).mono fun e w' g => ⟨g.1, h3 _ _ _ _ g.2⟩
theorem ql_crash {fs : List (Int × Int)} {A : Option Addr} {cf : Nat} (h : PlAt S dk ⟨lb, ek, rb, n, j, st, d, j2, st2, d2⟩ w) (hF : SlAt ftC 2 81 A fs w) (hFo : fs ≠ [] → ∀ p, A = some p → ¬ S p.block) (hfl : fs.length ≤ 9223372036854775807) : Calls Tryz.prog 17 #[.pointer (some ⟨ek, 0, none⟩), .slice A fs.length cf] w fun e w' => e = .returned (.int .i64 (d2.crashE fs)) ∧ PlPost S dk ⟨lb, ek, rb, n, j, st, d, j2, st2, d2.crashD fs⟩ w w' := by
  obtain ⟨Sa, h1, h2, h3⟩ := pl_right h
  exact (rg_crash (cf := cf) h1 hF (fun q p hp hs => hFo q p hp (h2 _ hs)) hfl).mono fun e w' g => ⟨g.1, h3 _ _ _ _ g.2⟩
theorem pl_lefts (h : PlAt S dk ⟨lb, ek, rb, n, j, st, d, j2, st2, d2⟩ w) : Calls Tryz.prog 21 #[.pointer (some ⟨lb, 0, none⟩)] w fun e w' => e = .returned (.int .i64 (lfF (n : Int) st)) ∧ Adds w w' := by
  obtain ⟨Sa, h1, _⟩ := pl_left h; exact pg_left h1
theorem ql_lefts (h : PlAt S dk ⟨lb, ek, rb, n, j, st, d, j2, st2, d2⟩ w) : Calls Tryz.prog 22 #[.pointer (some ⟨rb, 0, none⟩)] w fun e w' => e = .returned (.int .i64 (lfF (n : Int) st2)) ∧ Adds w w' := by
  obtain ⟨Sa, h1, _⟩ := pl_right h; exact rg_left h1
theorem pl_len (h : PlAt S dk ⟨lb, ek, rb, n, j, st, d, j2, st2, d2⟩ w) : Calls Tryz.prog 23 #[.pointer (some ⟨lb, 0, none⟩)] w fun e w' => e = .returned (.int .i64 (lnF st)) ∧ Adds w w' := by
  obtain ⟨Sa, h1, _⟩ := pl_left h; exact pg_len h1
theorem ql_many (h : PlAt S dk ⟨lb, ek, rb, n, j, st, d, j2, st2, d2⟩ w) : Calls Tryz.prog 24 #[.pointer (some ⟨rb, 0, none⟩)] w fun e w' => e = .returned (.int .i64 (lnF st2)) ∧ Adds w w' := by
  obtain ⟨Sa, h1, _⟩ := pl_right h; exact rg_many h1
theorem pl_disk (h : PlAt S dk ⟨lb, ek, rb, n, j, st, d, j2, st2, d2⟩ w) : ∃ S0, DiskAt S0 dk d w := by
  obtain ⟨Sa, h1, _⟩ := pl_left h; exact pg_disk h1
theorem ql_block (h : PlAt S dk ⟨lb, ek, rb, n, j, st, d, j2, st2, d2⟩ w) : ∃ A1 c1 A2 c2, w.heap[ek]? = some (.cells #[.slice A1 d2.secs.length c1, .slice A2 d2.opn.length c2, .int .i64 d2.fail, .int .i64 d2.reads] 49 (0, 0)) := by
  obtain ⟨Sa, h1, _⟩ := pl_right h; exact rg_block h1
theorem PlAt.mk {S1 S2 : Nat → Prop} (hn0 : 1 ≤ n) (hn1 : n ≤ 8) (h1 : DiskAt S1 dk (GDisk.zero (n + 2)) w) (h2 : w.heap[lb]? = some (.cells #[.pointer (some ⟨dk, 0, none⟩), .int .i64 1, .int .i64 (n : Int), stV none] 60 (0, 0))) (n1 : ¬ S1 lb) (h3 : RefAt S2 ek (GDisk.zero (n + 2)) w) (h4 : w.heap[rb]? = some (.cells #[.pointer (some ⟨ek, 0, none⟩), .int .i64 1, .int .i64 (n : Int), .bool false, .int .u64 0, .int .i64 0] 63 (0, 0))) (n2 : ¬ S2 rb) (dj : ∀ i, S1 i → ¬ S2 i) (n3 : ¬ S1 rb) (n4 : ¬ S2 lb) (n5 : lb ≠ rb) :
    PlAt (fun i => (S1 i ∨ i = lb) ∨ (S2 i ∨ i = rb)) dk ⟨lb, ek, rb, n, 0, none, GDisk.zero (n + 2), 0, none, GDisk.zero (n + 2)⟩ w := by
  have hi : PInv n 0 none (GDisk.zero (n + 2)) := ⟨by simp [GDisk.zero], by simp [GDisk.zero], by decide, hn0, hn1, fun e r h => by cases h⟩
  refine ⟨fun i => S1 i ∨ i = lb, fun i => S2 i ∨ i = rb, ⟨S1, h1, h2, n1, fun _ => Iff.rfl, hi⟩, ⟨S2, false, 0, 0, h3, h4, n2, fun _ => Iff.rfl, hi, rfl, by decide⟩, ?_, fun _ => Iff.rfl⟩
  intro i ha hb
  rcases ha with ha | rfl
  · rcases hb with hb | rfl
    · exact dj i ha hb
    · exact n3 ha
  · rcases hb with hb | hb
    · exact n4 hb
    · exact n5 hb
end
structure GOp7 where
  k : Int
  n : Int
  t : List UInt8
  e : Nat
  nr : Bool
  cr : Bool
  A : Option Addr
  c : Nat
  fs : List (Int × Int)
abbrev opC7 (y : GOp7) : List Value := [.int .i64 y.k, .int .i64 y.n, .string ⟨y.t.toArray⟩, .int .u64 (y.e : Int), .bool y.nr, .bool y.cr, .slice y.A y.fs.length y.c]
def Ops7Ok (ys : List GOp7) (w : World) : Prop := ∀ y ∈ ys, y.t.length ≤ 9223372036854775807 ∧ y.e < 18446744073709551616 ∧ SlAt ftC 2 81 y.A y.fs w ∧ y.fs.length ≤ 9223372036854775807
theorem andU3 {e : Nat} : ∃ q : Nat, bits .and .u64 (e : Int) 3 = (q : Int) ∧ q < 4 := by
  have h : (BitVec.ofInt 64 (e : Int) &&& BitVec.ofInt 64 3).toNat = (BitVec.ofInt 64 (e : Int)).toNat % 4 := by rw [BitVec.toNat_and, show (BitVec.ofInt 64 3).toNat = 2 ^ 2 - 1 from rfl, Nat.and_two_pow_sub_one_eq_mod]
  have hl := Nat.mod_lt (BitVec.ofInt 64 (e : Int)).toNat (show 0 < 4 by decide)
  refine ⟨(BitVec.ofInt 64 (e : Int)).toNat % 4, ?_, hl⟩
  have e1 : bits .and .u64 (e : Int) 3 = IntKind.wrap .u64 ((BitVec.ofInt 64 (e : Int) &&& BitVec.ofInt 64 3).toNat : Int) := rfl
  rw [e1, h, IntWalk.u64_in _ (by omega)]
end Go.Proofs.YtnkkbeafcfjkmaaGreatDoor
namespace Go.Proofs.YtnkkbeafcfjkmaaGreatDoor
open Go.RowKit
set_option linter.unusedVariables false
set_option linter.unusedSimpArgs false
theorem scan_good {at_ : Int} {e : Nat} {n : Nat} {xs : List (List UInt8)} (a0 : 0 ≤ at_) (he : e < 18446744073709551616) (hxs : xs.length ≤ n) (hn : n ≤ 1024) :
    ∀ (f k : Nat) (d : GDisk), d.good → at_.toNat + n ≤ d.secs.length → (∀ i x, xs[i]? = some x → d.secs[at_.toNat + i]? = some (makeS x e i) ∧ x.length ≤ 43) → (xs.length = n ∨ ¬ recS (d.secs.getD (at_.toNat + xs.length) []) e xs.length) → f + k = n → k ≤ xs.length →
    ∃ r, scanGo at_ e f d (xs.take k) = (xs, 0, ⟨d.secs, [], 0, r⟩) := by
  intro f
  induction f with
  | zero =>
    intro k d hg hl hx hend hk hk2
    have : xs.take k = xs := List.take_of_length_le (by omega)
    obtain ⟨h1, h2⟩ := hg
    obtain ⟨s, o, fl, r⟩ := d
    simp only at h1 h2
    subst h1 h2
    exact ⟨r, by rw [this]; rfl⟩
  | succ f ih =>
    intro k d hg hl hx hend hk hk2
    have hlen : (xs.take k).length = k := by simp; omega
    have hha : d.has (at_ + (k : Int)) := ⟨by omega, by omega⟩
    have hto : (at_ + (k : Int)).toNat = at_.toNat + k := by omega
    obtain ⟨r1, r2, r3⟩ := GDisk.read_good hg hha
    rw [scanGo, hlen, Int.toNat_natCast]
    by_cases hkl : k < xs.length
    · obtain ⟨h1, h2⟩ := hx k xs[k] (List.getElem?_eq_getElem hkl)
      have hs : d.secs.getD (at_.toNat + k) [] = makeS xs[k] e k := by rw [List.getD_eq_getElem?_getD, h1]; rfl
      have hr : d.recP (at_ + (k : Int)) e k := by
        rw [GDisk.recP_good hg hha, hto, hs, recS_mk h2 he (by omega)]; exact ⟨rfl, rfl⟩
      have ht : d.recT (at_ + (k : Int)) e k = xs[k] := by
        rw [GDisk.recT, if_pos hr, r2, hto, hs]; exact (rd_mk h2 he (by omega)).1
      rw [if_pos hr, ht, r3, show xs.take k ++ [xs[k]] = xs.take (k + 1) by rw [List.take_add_one, List.getElem?_eq_getElem hkl]; rfl]
      exact ih (k + 1) ⟨d.secs, [], 0, _⟩ ⟨rfl, rfl⟩ hl hx hend (by omega) hkl
    · have hke : k = xs.length := by omega
      have hr : ¬ d.recP (at_ + (k : Int)) e k := by
        rw [GDisk.recP_good hg hha, hto, hke]
        rcases hend with h | h
        · omega
        · exact h
      rw [if_neg hr, r1, r3, show xs.take k = xs from List.take_of_length_le (by omega)]
      exact ⟨_, rfl⟩
theorem scan_good0 {at_ : Int} {e : Nat} {n : Int} {xs : List (List UInt8)} {d : GDisk} (a0 : 0 ≤ at_) (he : e < 18446744073709551616) (n0 : 0 ≤ n) (hn : n ≤ 1024) (hxs : xs.length ≤ n) (hg : d.good) (hl : at_ + n ≤ d.secs.length) (hx : ∀ i x, xs[i]? = some x → d.secs[at_.toNat + i]? = some (makeS x e i) ∧ x.length ≤ 43) (hend : (xs.length : Int) = n ∨ ¬ recS (d.secs.getD (at_.toNat + xs.length) []) e xs.length) :
    ∃ r, scanGo at_ e n.toNat d [] = (xs, 0, ⟨d.secs, [], 0, r⟩) := by
  have h := scan_good (at_ := at_) (e := e) (n := n.toNat) (xs := xs) a0 he (by omega) (by omega) n.toNat 0 d hg (by omega) hx (hend.imp (fun h => by omega) id) (by omega) (Nat.zero_le _)
  simpa using h
end Go.Proofs.YtnkkbeafcfjkmaaGreatDoor
namespace Go.Proofs.YtnkkbeafcfjkmaaGreatDoor
open Go.RowKit
set_option linter.unusedVariables false
set_option linter.unusedSimpArgs false
theorem wlAppend_good {S : Nat → Prop} {b dk : Nat} {sc : List (List UInt8)} {rd : Int} {at_ n : Int} {e : Nat} {r : Int} {w : World} {l : List UInt8} (hb : w.heap[b]? = some (.cells #[.pointer (some ⟨dk, 0, none⟩), .int .i64 at_, .int .i64 n, .iface 67 (.agg #[.int .u64 (e : Int), .int .i64 r])] 60 (0, 0))) (hd : DiskAt S dk ⟨sc, [], 0, rd⟩ w) (hnb : ¬ S b) (hl : l.length ≤ 43) (a0 : 0 ≤ at_) (a1 : at_ ≤ 1024) (r0 : 0 ≤ r) (r1 : r ≤ 1024) (he : e < 18446744073709551616) (hr : r < n) (ha : at_ + r < sc.length) :
    Calls Tryz.prog 18 #[.pointer (some ⟨b, 0, none⟩), .string ⟨l.toArray⟩] w fun e_ w' => ∃ S', e_ = .returned (.int .i64 0) ∧ w'.heap[b]? = some (.cells #[.pointer (some ⟨dk, 0, none⟩), .int .i64 at_, .int .i64 n, .iface 67 (.agg #[.int .u64 (e : Int), .int .i64 (r + 1)])] 60 (0, 0)) ∧ DiskAt S' dk ⟨sc.set (at_ + r).toNat (makeS l e r.toNat), [], 0, rd⟩ w' ∧ (∀ k, S' k → S k ∨ w.heap.size ≤ k) ∧ ¬ S' b ∧ Keeps (fun k => k = b ∨ S k) w w' := by
  obtain ⟨h1, h2⟩ := GDisk.wrs_good (d := ⟨sc, [], 0, rd⟩) (a := at_ + r) (x := makeS l e r.toNat) ⟨rfl, rfl⟩ ⟨by omega, ha⟩ (makeS_len hl e r.toNat)
  refine (wlAppend_ok hb hd hnb hl a0 a1 r0 r1 he (by simp) hr h1).mono ?_
  rintro e_ w' ⟨g1, g2, S', g3, g4, g5, g6⟩
  rw [h2] at g3
  exact ⟨S', g1, g2, g3, g4, g5, g6⟩
theorem wlScan_good {S : Nat → Prop} {b dk : Nat} {sc : List (List UInt8)} {rd rd' : Int} {at_ n : Int} {stv : Value} {e : Nat} {xs : List (List UInt8)} {w : World} (hb : w.heap[b]? = some (.cells #[.pointer (some ⟨dk, 0, none⟩), .int .i64 at_, .int .i64 n, stv] 60 (0, 0))) (hd : DiskAt S dk ⟨sc, [], 0, rd⟩ w) (hnb : ¬ S b) (a0 : 0 ≤ at_) (a1 : at_ ≤ 1024) (n1 : n ≤ 1024) (he : ¬ e = 0) (he2 : e < 18446744073709551616) (hS : scanGo at_ e n.toNat ⟨sc, [], 0, rd⟩ [] = (xs, 0, ⟨sc, [], 0, rd'⟩)) :
    Calls Tryz.prog 9 #[.pointer (some ⟨b, 0, none⟩), .int .u64 (e : Int)] w fun e_ w' => ∃ A c, e_ = .returned (.tuple #[.slice A xs.length c, .int .i64 0]) ∧ w'.heap[b]? = some (.cells #[.pointer (some ⟨dk, 0, none⟩), .int .i64 at_, .int .i64 n, .iface 67 (.agg #[.int .u64 (e : Int), .int .i64 (xs.length : Int)])] 60 (0, 0)) ∧ OwAt strC 1 9 A c xs w' ∧ (∀ i, blk A = some i → w.heap.size ≤ i) ∧ DiskAt S dk ⟨sc, [], 0, rd'⟩ w' ∧ (∀ i, blk A = some i → ¬ S i) ∧ Keeps (fun k => k = b ∨ S k) w w' := by
  refine (wlScan_ok hb hd hnb a0 a1 n1 he he2 (by rw [hS])).mono ?_
  rintro e_ w' ⟨A, c, g1, g2, g3, g4, g5, g6, g7⟩
  rw [hS] at g1 g2 g3 g5
  exact ⟨A, c, g1, g2, g3, g4, g5, g6, g7⟩
end Go.Proofs.YtnkkbeafcfjkmaaGreatDoor
namespace Go.Proofs.YtnkkbeafcfjkmaaGreatDoor
open Go.RowKit
set_option linter.unusedVariables false
set_option linter.unusedSimpArgs false
theorem l07aw1 (rd : Int) : ∃ r, scanGo 1 1 (3 : Int).toNat (⟨List.set (List.set (List.replicate 4 (List.replicate 64 (0 : UInt8))) 1 (makeS [97] 1 0)) 2 (makeS [98] 1 1), [], 0, rd⟩ : GDisk) [] = (([[97], [98]] : List (List UInt8)), 0, ⟨List.set (List.set (List.replicate 4 (List.replicate 64 (0 : UInt8))) 1 (makeS [97] 1 0)) 2 (makeS [98] 1 1), [], 0, r⟩) := by
  refine scan_good0 (at_ := 1) (e := 1) (n := 3) (xs := [[97], [98]]) (by decide) (by decide) (by decide) (by decide) (by decide) ⟨rfl, rfl⟩ (by simp) (fun i x hx => ?_) (.inr ?_)
  · match i with
    | 0 => simp at hx; subst hx; exact ⟨rfl, by decide⟩
    | 1 => simp at hx; subst hx; exact ⟨rfl, by decide⟩
    | i + 2 => simp at hx
  · exact recS_zero (by decide)
theorem l07aw2 (rd : Int) : ∃ r, scanGo 1 2 (3 : Int).toNat (⟨List.set (List.set (List.replicate 4 (List.replicate 64 (0 : UInt8))) 1 (makeS [97] 1 0)) 2 (makeS [98] 1 1), [], 0, rd⟩ : GDisk) [] = (([] : List (List UInt8)), 0, ⟨List.set (List.set (List.replicate 4 (List.replicate 64 (0 : UInt8))) 1 (makeS [97] 1 0)) 2 (makeS [98] 1 1), [], 0, r⟩) := by
  refine scan_good0 (at_ := 1) (e := 2) (n := 3) (xs := []) (by decide) (by decide) (by decide) (by decide) (by decide) ⟨rfl, rfl⟩ (by simp) (fun i x hx => by simp at hx) (.inr ?_)
  show ¬ recS (makeS [97] 1 0) 2 0
  rw [recS_mk (by decide) (by decide) (by decide)]; omega
set_option maxRecDepth 100000 in
set_option maxHeartbeats 4000000 in
theorem l07awake_c (w : World) : Calls Tryz.prog 4 #[] w fun e w' => e = .returned (.bool true) ∧ Adds w w' := by
  have K : Keeps (fun _ => False) w w := Keeps.refl _ w
  refine Calls.start Tryz.func4 rfl (by kernel_rfl) ?_
  refine WC.seq ?_
  refine WC.region ?_
  refine WL.op (d := 0) (.bool false) (k := ?_)
  refine WL.nil ?_
  refine WX.seqN ?_
  refine WC.seq ?_
  refine WC.region ?_
  refine WL.callG (d := 9) (f := 5) (args := #[.int .i64 4]) (dNew_ok (n := 4) (by omega) (by omega) w) (k := fun e_ w1 h_ => ?_)
  obtain ⟨b2, S3, rfl, g4, hd5, ho6, k7⟩ := h_
  refine ⟨_, rfl, ?_⟩
  have lk8 : ∀ k, S3 k → False ∨ w.heap.size ≤ k := fun k h => .inr (Nat.le_trans K.size (ho6 k h))
  have z9 := Nat.le_trans K.size g4
  replace K := K.trans (k7.any _)
  change DiskAt S3 b2 (⟨List.replicate 4 (List.replicate 64 (0 : UInt8)), [], 0, 0⟩ : GDisk) w1 at hd5
  have ln10 : (List.replicate 4 (List.replicate 64 (0 : UInt8))).length = 4 := List.length_replicate
  have ln11 : (GDisk.secs (⟨List.replicate 4 (List.replicate 64 (0 : UInt8)), [], 0, 0⟩ : GDisk)).length = 4 := List.length_replicate
  refine WL.callG (d := 10) (f := 6) (args := #[.pointer (some ⟨b2, 0, none⟩), .int .i64 1, .int .i64 3]) (wlNew_ok (at_ := 1) (n := 3) hd5 (by omega) (by omega) ⟨by decide, by decide, by simp⟩) (k := fun e_ w12 h_ => ?_)
  obtain ⟨b13, rfl, g14, hb15, k16⟩ := h_
  refine ⟨_, rfl, ?_⟩
  have z17 := Nat.le_trans K.size g14
  have n18 : ¬ S3 b13 := fun h => absurd (hd5.lt _ h) (Nat.not_lt.2 g14)
  replace hd5 := hd5.adds k16
  replace K := K.trans (k16.any _)
  refine WL.op (d := 1) (.pointer (some ⟨b13, 0, none⟩)) (k := ?_)
  refine WL.nil ?_
  refine WX.seqN ?_
  refine WC.seq ?_
  refine WC.seq ?_
  refine WC.region ?_
  refine WL.op (d := 11) (.pointer (some ⟨b13, 0, none⟩)) (k := ?_)
  refine WL.op (d := 12) (.bool false) (k := ?_)
  refine WL.nil ?_
  refine WX.seqN ?_
  refine WC.condF (k := ?_)
  refine WC.skip ?_
  refine WX.seqN ?_
  refine WC.seq ?_
  refine WC.region ?_
  refine WL.op (d := 13) (.pointer (some ⟨b13, 0, none⟩)) (k := ?_)
  refine WL.callG (d := 14) (f := 12) (args := #[.pointer (some ⟨b13, 0, none⟩), .int .u64 1]) (wlStart_ok (e := 1) hb15 (by omega)) (k := fun e_ w19 h_ => ?_)
  obtain ⟨rfl, hb20, k21⟩ := h_
  refine ⟨_, rfl, ?_⟩
  replace hd5 := hd5.keeps k21 (fun i hi e => n18 (e ▸ hi))
  replace K := K.trans' k21 (fun i hi e => absurd (e ▸ hi) (Nat.not_lt.2 z17))
  clear hb15
  refine WL.op (d := 2) (.int .i64 0) (k := ?_)
  refine WL.nil ?_
  refine WX.seqN ?_
  refine WC.seq ?_
  refine WC.region ?_
  refine WL.op (d := 15) (.pointer (some ⟨b13, 0, none⟩)) (k := ?_)
  refine WL.callG (d := 16) (f := 18) (args := #[.pointer (some ⟨b13, 0, none⟩), .string ⟨#[97]⟩]) (wlAppend_good (l := [97]) (e := 1) (r := 0) hb20 hd5 n18 (by show List.length [97] ≤ 43; first | omega | (simp; done) | (simp; omega)) (by omega) (by omega) (by omega) (by omega) (by omega) (by omega) (by omega)) (k := fun e_ w22 h_ => ?_)
  obtain ⟨S23, rfl, hb24, hd25, lk26, n27, k28⟩ := h_
  refine ⟨_, rfl, ?_⟩
  have lk29 := lk_step lk8 lk26 K
  replace K := K.trans' k28 (fun i hi e => e.elim (fun e => absurd (e ▸ hi) (Nat.not_lt.2 z17)) (fun e => (lk8 i e).elim (fun h => h.elim) (fun h => absurd hi (Nat.not_lt.2 h))))
  clear hb20
  clear hd5
  change DiskAt S23 b2 (⟨List.set (List.replicate 4 (List.replicate 64 (0 : UInt8))) 1 (makeS [97] 1 0), [], 0, 0⟩ : GDisk) w22 at hd25
  have ln30 : (List.set (List.replicate 4 (List.replicate 64 (0 : UInt8))) 1 (makeS [97] 1 0)).length = List.length (List.replicate 4 (List.replicate 64 (0 : UInt8))) := List.length_set ..
  refine WL.op (d := 3) (.int .i64 0) (k := ?_)
  refine WL.nil ?_
  refine WX.seqN ?_
  refine WC.seq ?_
  refine WC.region ?_
  refine WL.op (d := 17) (.pointer (some ⟨b13, 0, none⟩)) (k := ?_)
  refine WL.callG (d := 18) (f := 18) (args := #[.pointer (some ⟨b13, 0, none⟩), .string ⟨#[98]⟩]) (wlAppend_good (l := [98]) (e := 1) (r := 1) hb24 hd25 n27 (by show List.length [98] ≤ 43; first | omega | (simp; done) | (simp; omega)) (by omega) (by omega) (by omega) (by omega) (by omega) (by omega) (by omega)) (k := fun e_ w31 h_ => ?_)
  obtain ⟨S32, rfl, hb33, hd34, lk35, n36, k37⟩ := h_
  refine ⟨_, rfl, ?_⟩
  have lk38 := lk_step lk29 lk35 K
  replace K := K.trans' k37 (fun i hi e => e.elim (fun e => absurd (e ▸ hi) (Nat.not_lt.2 z17)) (fun e => (lk29 i e).elim (fun h => h.elim) (fun h => absurd hi (Nat.not_lt.2 h))))
  clear hb24
  clear hd25
  change DiskAt S32 b2 (⟨List.set (List.set (List.replicate 4 (List.replicate 64 (0 : UInt8))) 1 (makeS [97] 1 0)) 2 (makeS [98] 1 1), [], 0, 0⟩ : GDisk) w31 at hd34
  have ln39 : (List.set (List.set (List.replicate 4 (List.replicate 64 (0 : UInt8))) 1 (makeS [97] 1 0)) 2 (makeS [98] 1 1)).length = List.length (List.set (List.replicate 4 (List.replicate 64 (0 : UInt8))) 1 (makeS [97] 1 0)) := List.length_set ..
  refine WL.op (d := 4) (.int .i64 0) (k := ?_)
  refine WL.nil ?_
  refine WX.seqN ?_
  refine WC.seq ?_
  refine WC.region ?_
  refine WL.op (d := 20) (.pointer (some ⟨b13, 0, none⟩)) (k := ?_)
  obtain ⟨r40, hs41⟩ : ∃ r, scanGo 1 1 (3 : Int).toNat (⟨List.set (List.set (List.replicate 4 (List.replicate 64 (0 : UInt8))) 1 (makeS [97] 1 0)) 2 (makeS [98] 1 1), [], 0, 0⟩ : GDisk) [] = (([[97], [98]] : List (List UInt8)), 0, ⟨List.set (List.set (List.replicate 4 (List.replicate 64 (0 : UInt8))) 1 (makeS [97] 1 0)) 2 (makeS [98] 1 1), [], 0, r⟩) := l07aw1 _
  refine WL.callG (d := 21) (f := 9) (args := #[.pointer (some ⟨b13, 0, none⟩), .int .u64 1]) (wlScan_good (e := 1) (xs := ([[97], [98]] : List (List UInt8))) hb33 hd34 n36 (by omega) (by omega) (by omega) (by omega) (by omega) hs41) (k := fun e_ w42 h_ => ?_)
  obtain ⟨A43, c44, rfl, hb45, ho46, ol47, hd48, n49, k50⟩ := h_
  refine ⟨_, rfl, ?_⟩
  have ol51 := fun i h => Nat.le_trans K.size (ol47 i h)
  have ln52 : List.length ([[97], [98]] : List (List UInt8)) = 2 := rfl
  replace K := K.trans' k50 (fun i hi e => e.elim (fun e => absurd (e ▸ hi) (Nat.not_lt.2 z17)) (fun e => (lk38 i e).elim (fun h => h.elim) (fun h => absurd hi (Nat.not_lt.2 h))))
  clear hb33
  clear hd34 ol47
  refine WL.op (d := 19) (.tuple #[.slice A43 2 c44, .int .i64 0]) (k := ?_)
  refine WL.op (d := 22) (.slice A43 2 c44) (k := ?_)
  refine WL.op (d := 23) (.int .i64 0) (k := ?_)
  refine WL.op (d := 5) (.slice A43 2 c44) (k := ?_)
  refine WL.op (d := 6) (.int .i64 0) (k := ?_)
  refine WL.nil ?_
  refine WX.seqN ?_
  refine WC.seq ?_
  refine WC.region ?_
  refine WL.op (d := 25) (.pointer (some ⟨b13, 0, none⟩)) (k := ?_)
  obtain ⟨r53, hs54⟩ : ∃ r, scanGo 1 2 (3 : Int).toNat (⟨List.set (List.set (List.replicate 4 (List.replicate 64 (0 : UInt8))) 1 (makeS [97] 1 0)) 2 (makeS [98] 1 1), [], 0, r40⟩ : GDisk) [] = (([] : List (List UInt8)), 0, ⟨List.set (List.set (List.replicate 4 (List.replicate 64 (0 : UInt8))) 1 (makeS [97] 1 0)) 2 (makeS [98] 1 1), [], 0, r⟩) := l07aw2 _
  refine WL.callG (d := 26) (f := 9) (args := #[.pointer (some ⟨b13, 0, none⟩), .int .u64 2]) (wlScan_good (e := 2) (xs := ([] : List (List UInt8))) hb45 hd48 n36 (by omega) (by omega) (by omega) (by omega) (by omega) hs54) (k := fun e_ w55 h_ => ?_)
  obtain ⟨A56, c57, rfl, hb58, ho59, ol60, hd61, n62, k63⟩ := h_
  refine ⟨_, rfl, ?_⟩
  have ol64 := fun i h => Nat.le_trans K.size (ol60 i h)
  have ln65 : List.length ([] : List (List UInt8)) = 0 := rfl
  replace K := K.trans' k63 (fun i hi e => e.elim (fun e => absurd (e ▸ hi) (Nat.not_lt.2 z17)) (fun e => (lk38 i e).elim (fun h => h.elim) (fun h => absurd hi (Nat.not_lt.2 h))))
  replace ho46 := ho46.keeps k63 (fun i hi h => h.elim (fun h => (ho46.offT hb45 (by decide)) (h ▸ hi)) (n49 i hi))
  clear hb45
  clear hd48 ol60
  refine WL.op (d := 24) (.tuple #[.slice A56 0 c57, .int .i64 0]) (k := ?_)
  refine WL.op (d := 27) (.slice A56 0 c57) (k := ?_)
  refine WL.op (d := 28) (.int .i64 0) (k := ?_)
  refine WL.op (d := 7) (.slice A56 0 c57) (k := ?_)
  refine WL.op (d := 8) (.int .i64 0) (k := ?_)
  refine WL.nil ?_
  refine WX.seqN ?_
  refine WC.seq ?_
  refine WC.region ?_
  refine WL.op (d := 29) (.int .i64 0) (k := ?_)
  refine WL.op (d := 30) (.bool true) (k := ?_)
  refine WL.op (d := 31) (.bool true) (k := ?_)
  refine WL.op (d := 32) (.int .i64 0) (k := ?_)
  refine WL.op (d := 33) (.bool true) (k := ?_)
  refine WL.op (d := 34) (.bool true) (k := ?_)
  refine WL.op (d := 35) (.bool true) (k := ?_)
  refine WL.op (d := 36) (.int .i64 0) (k := ?_)
  refine WL.op (d := 37) (.bool true) (k := ?_)
  refine WL.op (d := 38) (.bool true) (k := ?_)
  refine WL.op (d := 39) (.bool true) (k := ?_)
  refine WL.op (d := 40) (.int .i64 0) (k := ?_)
  refine WL.op (d := 41) (.bool true) (k := ?_)
  refine WL.op (d := 42) (.bool true) (k := ?_)
  refine WL.op (d := 43) (.bool true) (k := ?_)
  refine WL.op (d := 44) (.int .i64 0) (k := ?_)
  refine WL.op (d := 45) (.bool true) (k := ?_)
  refine WL.op (d := 46) (.bool true) (k := ?_)
  refine WL.op (d := 47) (.bool true) (k := ?_)
  refine WL.op (d := 48) (.slice A43 2 c44) (k := ?_)
  refine WL.op (d := 49) (.int .i64 2) (k := ?_)
  refine WL.op (d := 50) (.bool true) (k := ?_)
  refine WL.op (d := 51) (.bool true) (k := ?_)
  refine WL.op (d := 52) (.bool true) (k := ?_)
  refine WL.op (d := 53) (.slice A43 2 c44) (k := ?_)
  obtain ⟨b66, o67, r68, hr69, hA70, he71⟩ := SlAt.at (ho46.sl ekStr) (i := 0) (by omega) (by omega)
  refine WL.rw (t := 53) (v := .slice (some ⟨b66, o67, none⟩) 2 c44) (congrArg (fun a => Value.slice a 2 c44) hA70) (k := ?_)
  refine WL.idx (T := 36) (E := 9) (m := 1) (b := b66) (o := o67) (len := 2) (cap := c44) (i := 0) (kk := .i64) (d := 54) (by omega) (by omega) (k := ?_)
  refine WL.rw (t := 53) (v := .slice A43 2 c44) (congrArg (fun a => Value.slice a 2 c44) (Eq.symm hA70)) (k := ?_)
  refine WL.load (v := .string ⟨(r68).toArray⟩) (he71.ld0 (T := 9)) (k := ?_)
  refine WL.opE (d := 56) (.bool (ByteArray.toList ⟨(r68).toArray⟩ == ByteArray.toList ⟨([97]).toArray⟩)) (v := .bool (decide (r68 = [97]))) (str_eql _ _) (k := ?_)
  refine WL.op (d := 57) (.bool (decide (r68 = [97]))) (k := ?_)
  refine WL.op (d := 58) (.bool (decide (r68 = [97]))) (k := ?_)
  refine bsplit (decide (r68 = [97])) (fun h72 => ?_) (fun h72 => ?_)
  · have ph72 := of_decide_eq_true h72
    refine WL.rw (t := 58) (v := .bool true) (congrArg Value.bool h72) (k := ?_)
    refine WL.op (d := 59) (.slice A43 2 c44) (k := ?_)
    obtain ⟨b73, o74, r75, hr76, hA77, he78⟩ := SlAt.at (ho46.sl ekStr) (i := 1) (by omega) (by omega)
    refine WL.rw (t := 59) (v := .slice (some ⟨b73, o74, none⟩) 2 c44) (congrArg (fun a => Value.slice a 2 c44) hA77) (k := ?_)
    refine WL.idx (T := 36) (E := 9) (m := 1) (b := b73) (o := o74) (len := 2) (cap := c44) (i := 1) (kk := .i64) (d := 60) (by omega) (by omega) (k := ?_)
    refine WL.rw (t := 59) (v := .slice A43 2 c44) (congrArg (fun a => Value.slice a 2 c44) (Eq.symm hA77)) (k := ?_)
    refine WL.load (v := .string ⟨(r75).toArray⟩) (he78.ld0 (T := 9)) (k := ?_)
    refine WL.opE (d := 62) (.bool (ByteArray.toList ⟨(r75).toArray⟩ == ByteArray.toList ⟨([98]).toArray⟩)) (v := .bool (decide (r75 = [98]))) (str_eql _ _) (k := ?_)
    refine WL.op (d := 63) (.bool (decide (r75 = [98]))) (k := ?_)
    refine WL.op (d := 64) (.bool (decide (r75 = [98]))) (k := ?_)
    refine bsplit (decide (r75 = [98])) (fun h79 => ?_) (fun h79 => ?_)
    · have ph79 := of_decide_eq_true h79
      refine WL.rw (t := 64) (v := .bool true) (congrArg Value.bool h79) (k := ?_)
      refine WL.op (d := 65) (.slice A56 0 c57) (k := ?_)
      refine WL.op (d := 66) (.int .i64 0) (k := ?_)
      refine WL.op (d := 67) (.bool true) (k := ?_)
      refine WL.op (d := 68) (.bool true) (k := ?_)
      refine WL.op (d := 0) (.bool true) (k := ?_)
      refine WL.nil ?_
      refine WX.seqN ?_
      refine WC.ret ?_
      refine WX.ret (rs := [.tmp 0]) [.bool true] (.bool true) ⟨(by kernel_rfl), trivial⟩ (k := ?_)
      exact ⟨rfl, K⟩
    · have ph79 := of_decide_eq_false h79
      refine WL.rw (t := 64) (v := .bool false) (congrArg Value.bool h79) (k := ?_)
      refine WL.skip (d := 65) (k := ?_)
      refine WL.skip (d := 66) (k := ?_)
      refine WL.skip (d := 67) (k := ?_)
      refine WL.op (d := 68) (.bool false) (k := ?_)
      refine WL.op (d := 0) (.bool false) (k := ?_)
      refine WL.nil ?_
      refine WX.seqN ?_
      refine WC.ret ?_
      refine WX.ret (rs := [.tmp 0]) [.bool false] (.bool false) ⟨(by kernel_rfl), trivial⟩ (k := ?_)
      exact absurd (Option.some.inj (show some [98] = some r75 from hr76)).symm ph79
  · have ph72 := of_decide_eq_false h72
    refine WL.rw (t := 58) (v := .bool false) (congrArg Value.bool h72) (k := ?_)
    refine WL.skip (d := 59) (k := ?_)
    refine WL.skip (d := 60) (k := ?_)
    refine WL.skip (d := 61) (k := ?_)
    refine WL.skip (d := 62) (k := ?_)
    refine WL.op (d := 63) (.bool false) (k := ?_)
    refine WL.op (d := 64) (.bool false) (k := ?_)
    refine WL.skip (d := 65) (k := ?_)
    refine WL.skip (d := 66) (k := ?_)
    refine WL.skip (d := 67) (k := ?_)
    refine WL.op (d := 68) (.bool false) (k := ?_)
    refine WL.op (d := 0) (.bool false) (k := ?_)
    refine WL.nil ?_
    refine WX.seqN ?_
    refine WC.ret ?_
    refine WX.ret (rs := [.tmp 0]) [.bool false] (.bool false) ⟨(by kernel_rfl), trivial⟩ (k := ?_)
    exact absurd (Option.some.inj (show some [97] = some r68 from hr69)).symm ph72
end Go.Proofs.YtnkkbeafcfjkmaaGreatDoor
