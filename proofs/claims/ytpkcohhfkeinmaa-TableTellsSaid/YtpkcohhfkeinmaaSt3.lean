/- Tables: parts put together. -/
import Derived.Test.YtpkcohhfkeinmaaSt1a
namespace Go.Proofs.Ytpkcohhfkeinmaa
open Go.RowKit
set_option linter.unusedVariables false
set_option linter.unusedSimpArgs false

set_option maxRecDepth 100000 in
theorem sGrow_c (n : Int) (n0 : 0 ≤ n) (n1 : n ≤ 10000000000) (w : World) : Calls Try.prog 99 #[.slice none 0 0, .int .i64 n] w fun e w' => ∃ A c, e = .returned (.slice A 0 c) ∧ OwAt rowC 6 53 A c [] w' ∧ Adds w w' ∧ (∀ i, blk A = some i → w.heap.size ≤ i) := by
  have K : Keeps (fun _ => False) w w := Keeps.refl _ w
  refine Calls.start Try.func99 rfl (by kernel_rfl) ?_
  refine WC.seq ?_
  refine WC.region ?_
  refine WL.op (d := 4) (.slice none 0 0) (k := ?_)
  refine WL.nil ?_
  refine WX.seqN ?_
  refine WC.seq ?_
  refine WC.seq ?_
  refine WC.region ?_
  refine WL.op (d := 5) (.int .i64 n) (k := ?_)
  refine WL.op (d := 6) (.bool (decide (n < 0))) (k := ?_)
  refine WL.nil ?_
  refine WX.seqN ?_
  refine WC.cond (b := decide (n < 0)) (ht := fun h1 => ?_) (hf := fun h1 => ?_)
  · have ph1 := of_decide_eq_true h1
    refine WC.region ?_
    refine WL.op (d := 7) (.iface 9 (.string ⟨#[99, 97, 110, 110, 111, 116, 32, 98, 101, 32, 110, 101, 103, 97, 116, 105, 118, 101]⟩)) (k := ?_)
    exfalso; omega
  · have ph1 := of_decide_eq_false h1
    refine WC.skip ?_
    refine WX.seqN ?_
    refine WC.seq ?_
    refine WC.seq ?_
    refine WC.region ?_
    refine WL.op (d := 8) (.int .i64 n) (k := ?_)
    refine WL.op (d := 9) (.slice none 0 0) (k := ?_)
    refine WL.op (d := 10) (.int .i64 0) (k := ?_)
    refine WL.op (d := 11) (.slice none 0 0) (k := ?_)
    refine WL.op (d := 12) (.int .i64 0) (k := ?_)
    refine WL.op (d := 13) (.int .i64 0) (k := ?_)
    refine WL.opE (d := 14) (.int .i64 (IntKind.i64.wrap (n - 0))) (v := .int .i64 (n - 0)) (congrArg (Value.int .i64) (IntWalk.i64_in _ (by omega))) (k := ?_)
    refine WL.op (d := 1) (.int .i64 (n - 0)) (k := ?_)
    refine WL.nil ?_
    refine WX.seqN ?_
    refine WC.seq ?_
    refine WC.region ?_
    refine WL.op (d := 15) (.int .i64 (n - 0)) (k := ?_)
    refine WL.op (d := 16) (.bool (decide ((n - 0) > 0))) (k := ?_)
    refine WL.nil ?_
    refine WX.seqN ?_
    refine WC.cond (b := decide ((n - 0) > 0)) (ht := fun h2 => ?_) (hf := fun h2 => ?_)
    · have ph2 := of_decide_eq_true h2
      refine WC.region ?_
      refine WL.op (d := 17) (.slice none 0 0) (k := ?_)
      refine WL.op (d := 18) (.slice none 0 0) (k := ?_)
      refine WL.op (d := 19) (.int .i64 0) (k := ?_)
      refine WL.op (d := 20) (.slice none 0 0) (k := ?_)
      refine WL.op (d := 21) (.int .i64 (n - 0)) (k := ?_)
      obtain ⟨A3, c4, w5, hr6, ho7, k8, ol9, hc10⟩ := run_append_zeros (ty := 22) (T := 22) (I := 3) ekRow (by kernel_rfl) (by kernel_rfl) (n := n - 0) (by omega) (by omega) w
      refine WL.app2 (d := 22) (v := .slice A3 ((n - 0).toNat) c4) hr6 (k := ?_)
      clear hr6
      have ol11 := fun i h => Nat.le_trans K.size (ol9 i h)
      replace K := K.trans (k8.any _)
      clear ol9
      refine WL.op (d := 23) (.slice none 0 0) (k := ?_)
      refine WL.op (d := 24) (.int .i64 0) (k := ?_)
      refine WL.cut (d := 25) (vx := .slice A3 ((n - 0).toNat) c4) (lo' := none) (hi' := some (.int .i64 0)) (mx' := none) (v := .slice A3 0 c4) (run_cutSl (a := 0) (b := 0) (c := c4) (m := 6) (E := 53) (by kernel_rfl) (by kernel_rfl) (.inl ⟨rfl, rfl⟩) (.inr ⟨_, _, rfl, rfl⟩) (.inl ⟨rfl, rfl⟩) (by omega) (by omega) (cutA_zero _ _ _) rfl (by omega)) (k := ?_)
      refine WL.op (d := 0) (.slice A3 0 c4) (k := ?_)
      refine WL.nil ?_
      refine WX.seqN ?_
      refine WC.seq ?_
      refine WC.region ?_
      refine WL.op (d := 26) (.slice A3 0 c4) (k := ?_)
      refine WL.op (d := 4) (.slice A3 0 c4) (k := ?_)
      refine WL.nil ?_
      refine WX.seqN ?_
      refine WC.ret ?_
      refine WX.ret (rs := [.tmp 4]) [.slice A3 0 c4] (.slice A3 0 c4) ⟨(by kernel_rfl), trivial⟩ (k := ?_)
      exact ⟨A3, c4, rfl, ho7, K, ol11⟩
    · have ph2 := of_decide_eq_false h2
      refine WC.skip ?_
      refine WX.seqN ?_
      refine WC.seq ?_
      refine WC.region ?_
      refine WL.op (d := 26) (.slice none 0 0) (k := ?_)
      refine WL.op (d := 4) (.slice none 0 0) (k := ?_)
      refine WL.nil ?_
      refine WX.seqN ?_
      refine WC.ret ?_
      refine WX.ret (rs := [.tmp 4]) [.slice none 0 0] (.slice none 0 0) ⟨(by kernel_rfl), trivial⟩ (k := ?_)
      exact ⟨none, 0, rfl, OwAt.nil, K, by simp [blk]⟩

set_option maxRecDepth 100000 in
theorem sConcat_c {A : Option Addr} {cp : Nat} {xss : List GSl} {w : World} (hA : SlAt slC 1 22 A xss w) (hall : ∀ s ∈ xss, SlAt rowC 6 53 s.A s.rows w) (hn : xss.length ≤ 1000) (hs : (xss.flatMap GSl.rows).length ≤ 1000000000) : Calls Try.prog 93 #[.slice A xss.length cp] w fun e w' => ∃ A' c', e = .returned (.slice A' (xss.flatMap GSl.rows).length c') ∧ OwAt rowC 6 53 A' c' (xss.flatMap GSl.rows) w' ∧ Adds w w' ∧ (∀ i, blk A' = some i → w.heap.size ≤ i) := by
  have K : Keeps (fun _ => False) w w := Keeps.refl _ w
  refine Calls.start Try.func93 rfl (by kernel_rfl) ?_
  refine WC.seq ?_
  refine WC.region ?_
  refine WL.op (d := 2) (.slice none 0 0) (k := ?_)
  refine WL.nil ?_
  refine WX.seqN ?_
  refine WC.seq ?_
  refine WC.region ?_
  refine WL.op (d := 3) (.int .i64 0) (k := ?_)
  refine WL.nil ?_
  refine WX.seqN ?_
  refine WC.seq ?_
  refine WC.seq ?_
  refine WC.region ?_
  refine WL.op (d := 9) (.slice A xss.length cp) (k := ?_)
  refine WL.op (d := 10) (.int .i64 (xss.length : Int)) (k := ?_)
  refine WL.op (d := 11) (.int .i64 0) (k := ?_)
  refine WL.nil ?_
  refine WX.seqN ?_
  refine WC.block ?_
  refine WC.loop (ι := Int) (fun (i : Int) => [(0, .slice A xss.length cp), (2, .slice none 0 0), (9, .slice A xss.length cp), (10, .int .i64 (xss.length : Int)), (11, .int .i64 i), (3, .int .i64 (sumU xss i : Int))]) (fun (i : Int) (w_ : World) => (Keeps (fun _ => False) w w_) ∧ (0 ≤ i) ∧ (i ≤ xss.length)) (fun (i : Int) => (xss.length - i).toNat) 0 ⟨(by kernel_rfl), (by kernel_rfl), (by kernel_rfl), (by kernel_rfl), (by kernel_rfl), (by kernel_rfl), trivial⟩ ⟨K, Int.le_refl 0, (by omega)⟩ ?_
  rintro i w1 ⟨K, i0, i1⟩
  have sl := sumU_le (xss := xss) i
  have sl2 := sumU_le (xss := xss) (i + 1)
  refine WC.seq ?_
  refine WC.region ?_
  refine WL.op (d := 12) (.bool (decide (i < (xss.length : Int)))) (k := ?_)
  refine WL.nil ?_
  refine WX.seqN ?_
  refine WC.seq ?_
  refine WC.cond (b := decide (i < (xss.length : Int))) (ht := fun h2 => ?_) (hf := fun h2 => ?_)
  · have ph2 := of_decide_eq_true h2
    refine WC.skip ?_
    refine WX.seqN ?_
    refine WC.seq ?_
    refine WC.block ?_
    refine WC.seq ?_
    refine WC.region ?_
    obtain ⟨b3, o4, r5, hr6, hA7, he8⟩ := SlAt.at hA (i := i) (by omega) (by omega)
    refine WL.rw (t := 9) (v := .slice (some ⟨b3, o4, none⟩) xss.length cp) (congrArg (fun a => Value.slice a xss.length cp) hA7) (k := ?_)
    refine WL.idx (T := 136) (E := 22) (m := 1) (b := b3) (o := o4) (len := xss.length) (cap := cp) (i := i) (kk := .i64) (d := 13) (by omega) (by omega) (k := ?_)
    refine WL.rw (t := 9) (v := .slice A xss.length cp) (congrArg (fun a => Value.slice a xss.length cp) (Eq.symm hA7)) (k := ?_)
    refine WL.load (v := .slice r5.A r5.rows.length r5.cap) ((he8.adds K).ld0 (T := 22)) (k := ?_)
    refine WL.op (d := 5) (.slice r5.A r5.rows.length r5.cap) (k := ?_)
    refine WL.nil ?_
    refine WX.seqN ?_
    refine WC.seq ?_
    refine WC.region ?_
    refine WL.op (d := 15) (.int .i64 (sumU xss i : Int)) (k := ?_)
    refine WL.op (d := 16) (.slice r5.A r5.rows.length r5.cap) (k := ?_)
    refine WL.op (d := 17) (.int .i64 (r5.rows.length : Int)) (k := ?_)
    have hsu := sumU_succ i0 hr6
    have hsu := sumU_succ i0 hr6
    refine WL.opE (d := 18) (.int .i64 (IntKind.i64.wrap ((sumU xss i : Int) + (r5.rows.length : Int)))) (v := .int .i64 ((sumU xss i : Int) + (r5.rows.length : Int))) (congrArg (Value.int .i64) (IntWalk.i64_in _ (by omega))) (k := ?_)
    refine WL.op (d := 3) (.int .i64 ((sumU xss i : Int) + (r5.rows.length : Int))) (k := ?_)
    refine WL.nil ?_
    refine WX.seqN ?_
    refine WC.seq ?_
    refine WC.region ?_
    refine WL.op (d := 19) (.int .i64 ((sumU xss i : Int) + (r5.rows.length : Int))) (k := ?_)
    refine WL.opE (d := 20) (.bool (decide (((sumU xss i : Int) + (r5.rows.length : Int)) < 0))) (v := .bool false) (congrArg Value.bool (decide_eq_false (by omega))) (k := ?_)
    refine WL.nil ?_
    refine WX.seqN ?_
    refine WC.condF (k := ?_)
    refine WC.skip ?_
    refine WX.blockN ?_
    refine WX.seqN ?_
    refine WC.region ?_
    refine WL.opE (d := 22) (.int .i64 (IntKind.i64.wrap (i + 1))) (v := .int .i64 (i + 1)) (congrArg (Value.int .i64) (IntWalk.i64_in _ (by omega))) (k := ?_)
    refine WL.op (d := 11) (.int .i64 (i + 1)) (k := ?_)
    refine WL.nil ?_
    refine WX.rw (t := 3) (v := .int .i64 (sumU xss (i + 1) : Int)) (congrArg (Value.int .i64) (Eq.symm hsu)) (k := ?_)
    refine WX.round (i + 1) (by show (xss.length - (i + 1)).toNat < (xss.length - i).toNat; omega) ⟨(by kernel_rfl), (by kernel_rfl), (by kernel_rfl), (by kernel_rfl), (by kernel_rfl), (by kernel_rfl), trivial⟩ ⟨K, (by omega), (by omega)⟩
  · have ph2 := of_decide_eq_false h2
    refine WC.exit ?_
    refine WX.seqE ?_
    refine WX.seqE ?_
    refine WX.blockE ?_
    refine WX.seqN ?_
    refine WC.seq ?_
    refine WC.region ?_
    refine WL.op (d := 23) (.int .i64 (sumU xss i : Int)) (k := ?_)
    refine WL.callG (d := 24) (f := 99) (args := #[.slice none 0 0, .int .i64 (sumU xss i : Int)]) (sGrow_c (sumU xss i : Int) (by omega) (by omega) w1) (k := fun e_ w9 h_ => ?_)
    obtain ⟨A10, c11, rfl, ho12, k13, ol14⟩ := h_
    refine ⟨_, rfl, ?_⟩
    have ol15 := fun i h => Nat.le_trans K.size (ol14 i h)
    replace K := K.trans (k13.any _)
    clear ol14
    refine WL.op (d := 6) (.slice A10 0 c11) (k := ?_)
    refine WL.nil ?_
    refine WX.seqN ?_
    refine WC.seq ?_
    refine WC.seq ?_
    refine WC.region ?_
    refine WL.op (d := 25) (.slice A xss.length cp) (k := ?_)
    refine WL.op (d := 26) (.int .i64 (xss.length : Int)) (k := ?_)
    refine WL.op (d := 27) (.int .i64 0) (k := ?_)
    refine WL.nil ?_
    refine WX.seqN ?_
    refine WC.block ?_
    refine WC.loop (ι := Int × (Option Addr) × Nat) (fun (⟨j, Ao, co⟩ : Int × (Option Addr) × Nat) => [(25, .slice A xss.length cp), (26, .int .i64 (xss.length : Int)), (27, .int .i64 j), (6, .slice Ao (((xss.take j.toNat).flatMap GSl.rows).length) co)]) (fun (⟨j, Ao, co⟩ : Int × (Option Addr) × Nat) (w_ : World) => (Keeps (fun _ => False) w w_) ∧ (OwAt rowC 6 53 Ao co ((xss.take j.toNat).flatMap GSl.rows) w_) ∧ (∀ i, blk Ao = some i → w.heap.size ≤ i) ∧ (0 ≤ j) ∧ (j ≤ xss.length)) (fun (⟨j, Ao, co⟩ : Int × (Option Addr) × Nat) => (xss.length - j).toNat) (0, A10, c11) ⟨(by kernel_rfl), (by kernel_rfl), (by kernel_rfl), (by kernel_rfl), trivial⟩ ⟨K, ho12, ol15, Int.le_refl 0, (by omega)⟩ ?_
    rintro ⟨j, Ao, co⟩ w16 ⟨K, hb17, ol18, j0, j1⟩
    refine WC.seq ?_
    refine WC.region ?_
    refine WL.op (d := 28) (.bool (decide (j < (xss.length : Int)))) (k := ?_)
    refine WL.nil ?_
    refine WX.seqN ?_
    refine WC.seq ?_
    refine WC.cond (b := decide (j < (xss.length : Int))) (ht := fun h19 => ?_) (hf := fun h19 => ?_)
    · have ph19 := of_decide_eq_true h19
      refine WC.skip ?_
      refine WX.seqN ?_
      refine WC.seq ?_
      refine WC.block ?_
      refine WC.seq ?_
      refine WC.region ?_
      obtain ⟨b20, o21, r22, hr23, hA24, he25⟩ := SlAt.at hA (i := j) (by omega) (by omega)
      refine WL.rw (t := 25) (v := .slice (some ⟨b20, o21, none⟩) xss.length cp) (congrArg (fun a => Value.slice a xss.length cp) hA24) (k := ?_)
      refine WL.idx (T := 136) (E := 22) (m := 1) (b := b20) (o := o21) (len := xss.length) (cap := cp) (i := j) (kk := .i64) (d := 29) (by omega) (by omega) (k := ?_)
      refine WL.rw (t := 25) (v := .slice A xss.length cp) (congrArg (fun a => Value.slice a xss.length cp) (Eq.symm hA24)) (k := ?_)
      refine WL.load (v := .slice r22.A r22.rows.length r22.cap) ((he25.adds K).ld0 (T := 22)) (k := ?_)
      refine WL.op (d := 8) (.slice r22.A r22.rows.length r22.cap) (k := ?_)
      refine WL.nil ?_
      refine WX.seqN ?_
      refine WC.region ?_
      refine WL.op (d := 31) (.slice Ao (((xss.take j.toNat).flatMap GSl.rows).length) co) (k := ?_)
      refine WL.op (d := 32) (.slice r22.A r22.rows.length r22.cap) (k := ?_)
      refine WL.append (d := 33) (T := 22) (cl := rowC) (xs := (xss.take j.toNat).flatMap GSl.rows) (ys := r22.rows) (c := r22.cap) ekRow hb17 ((sl_mem hall hr23).adds K) (by exact flat_len j0 hr23 hs) (k := fun A26 c27 w28 ho29 k30 n31 => ?_)
      have ol32 := olink_step ol18 K n31
      replace K := K.trans' k30 (fun i hi e => absurd hi (Nat.not_lt.2 (ol18 i e)))
      clear hb17
      refine WL.op (d := 6) (.slice A26 (((xss.take j.toNat).flatMap GSl.rows ++ r22.rows).length) c27) (k := ?_)
      refine WL.nil ?_
      refine WX.blockN ?_
      refine WX.seqN ?_
      refine WC.region ?_
      refine WL.opE (d := 34) (.int .i64 (IntKind.i64.wrap (j + 1))) (v := .int .i64 (j + 1)) (congrArg (Value.int .i64) (IntWalk.i64_in _ (by omega))) (k := ?_)
      refine WL.op (d := 27) (.int .i64 (j + 1)) (k := ?_)
      refine WL.nil ?_
      have e33 : (xss.take j.toNat).flatMap GSl.rows ++ r22.rows = (xss.take (j + 1).toNat).flatMap GSl.rows := flat_takeI j0 hr23
      rw [e33] at ho29
      refine WX.rw (t := 6) (v := .slice A26 (((xss.take (j + 1).toNat).flatMap GSl.rows).length) c27) (congrArg (fun l => Value.slice A26 (List.length l) c27) e33) (k := ?_)
      refine WX.round (j + 1, A26, c27) (by show (xss.length - (j + 1)).toNat < (xss.length - j).toNat; omega) ⟨(by kernel_rfl), (by kernel_rfl), (by kernel_rfl), (by kernel_rfl), trivial⟩ ⟨K, ho29, ol32, (by omega), (by omega)⟩
    · have ph19 := of_decide_eq_false h19
      refine WC.exit ?_
      refine WX.seqE ?_
      refine WX.seqE ?_
      refine WX.blockE ?_
      refine WX.seqN ?_
      refine WC.seq ?_
      refine WC.region ?_
      refine WL.op (d := 35) (.slice Ao (((xss.take j.toNat).flatMap GSl.rows).length) co) (k := ?_)
      refine WL.op (d := 2) (.slice Ao (((xss.take j.toNat).flatMap GSl.rows).length) co) (k := ?_)
      refine WL.nil ?_
      refine WX.seqN ?_
      refine WC.ret ?_
      refine WX.ret (rs := [.tmp 2]) [.slice Ao (((xss.take j.toNat).flatMap GSl.rows).length) co] (.slice Ao (((xss.take j.toNat).flatMap GSl.rows).length) co) ⟨(by kernel_rfl), trivial⟩ (k := ?_)
      have e_ : xss.take j.toNat = xss := take_endI (by omega)
      rw [e_] at hb17 ⊢
      exact ⟨_, _, rfl, hb17, K, ol18⟩

theorem sConcat3_c {A : Option Addr} {cp : Nat} {a b c : GSl} {w : World} (hA : SlAt slC 1 22 A [a, b, c] w) (h1 : SlAt rowC 6 53 a.A a.rows w) (h2 : SlAt rowC 6 53 b.A b.rows w) (h3 : SlAt rowC 6 53 c.A c.rows w) (hs : (a.rows ++ (b.rows ++ c.rows)).length ≤ 1000000000) : Calls Try.prog 93 #[.slice A 3 cp] w fun e w' => ∃ A' c', e = .returned (.slice A' (a.rows ++ (b.rows ++ c.rows)).length c') ∧ OwAt rowC 6 53 A' c' (a.rows ++ (b.rows ++ c.rows)) w' ∧ Adds w w' ∧ (∀ i, blk A' = some i → w.heap.size ≤ i) := by
  have h := sConcat_c (cp := cp) hA (by intro s hs'; simp only [List.mem_cons, List.not_mem_nil, or_false] at hs'; rcases hs' with rfl | rfl | rfl <;> assumption) (by simp) (by simpa using hs)
  simpa using h

set_option maxRecDepth 100000 in
theorem tWith_c {A B : Option Addr} {cp cq : Nat} {rows ys : List GRow} {w : World} (hA : SlAt rowC 6 53 A rows w) (hB : SlAt rowC 6 53 B ys w) (hc : rows.length ≤ cp) (hn : rows.length ≤ 1000000) (hm : ys.length ≤ 1000000) (md : Int) {a b : Int} (a0 : 0 ≤ a) (a1 : a ≤ rows.length) (b0 : 0 ≤ b) (b1 : b ≤ rows.length) : Calls Try.prog 74 #[.agg #[.slice A rows.length cp, .int .i64 md], .int .i64 a, .int .i64 b, .slice B ys.length cq] w fun e w' => ∃ A' c', e = .returned (.agg #[.slice A' (rows.take a.toNat ++ (ys ++ rows.drop b.toNat)).length c', .int .i64 md]) ∧ OwAt rowC 6 53 A' c' (rows.take a.toNat ++ (ys ++ rows.drop b.toNat)) w' ∧ Adds w w' ∧ (∀ i, blk A' = some i → w.heap.size ≤ i) := by
  have K : Keeps (fun _ => False) w w := Keeps.refl _ w
  refine Calls.start Try.func74 rfl (by kernel_rfl) ?_
  refine WC.seq ?_
  refine WC.region ?_
  refine WL.new (d := 4) (T := 24) #[.slice A rows.length cp, .int .i64 md] (k := fun b1 w2 g3 hb4 k5 => ?_)
  have z6 := Nat.le_trans K.size g3
  replace K := K.trans (k5.any _)
  refine WL.new (d := 8) (T := 24) #[.slice none 0 0, .int .i64 0] (k := fun b7 w8 g9 hb10 k11 => ?_)
  have z12 := Nat.le_trans K.size g9
  have n13 : b1 ≠ b7 := Nat.ne_of_lt (Nat.lt_of_lt_of_le (lt_of_heap hb4) g9)
  replace hb4 := k11.heap hb4 id
  replace K := K.trans (k11.any _)
  refine WL.nil ?_
  refine WX.seqN ?_
  refine WC.seq ?_
  refine WC.mixed (fun _ => False) 15 (k := fun w14 k15 => ?_)
  replace hb4 := k15.heap hb4 id
  replace hb10 := k15.heap hb10 id
  replace K := K.trans (k15.any _)
  have KC := Keeps.refl (fun _ => False) w14
  have bh16 := hb4
  have bh17 := hb10
  have Kb := K
  refine WA.quiet 0 (d := 9) (.pointer (some ⟨b1, 0, none⟩)) KC (hi := rfl) (k := ?_)
  refine WA.quietR 1 (d := 10) (.slice A rows.length cp) KC (exec_load (fun w_ k_ => ld1 (T := 22) (i := 0) (k_.heap bh16 id))) (hi := rfl) (k := ?_)
  refine WA.quiet 2 (d := 11) (.int .i64 a) KC (hi := rfl) (k := ?_)
  refine WA.quiet 3 (d := 12) (.int .i64 a) KC (hi := rfl) (k := ?_)
  have hs18 := SlAt.cutT (b := a.toNat) (c := a.toNat) hA (by omega) (by omega)
  refine WA.quietR 4 (d := 13) (.slice A ((List.take a.toNat rows).length) a.toNat) KC (exec_cut (vx := .slice A rows.length cp) (lo' := none) (hi' := (some (.int .i64 a))) (mx' := (some (.int .i64 a))) (fun _ => run_cutSl (a := 0) (b := a.toNat) (c := a.toNat) (m := 6) (E := 53) (by kernel_rfl) (by kernel_rfl) (.inr ⟨⟨_, _, rfl, by omega⟩, by omega⟩) (.inr ⟨_, _, rfl, by omega⟩) (.inl ⟨rfl, rfl⟩) (by omega) (by omega) (cutA_zero _ _ _) (by simp <;> omega) (by omega))) (hi := rfl) (k := ?_)
  refine WA.quiet 5 (d := 14) (.slice B ys.length cq) KC (hi := rfl) (k := ?_)
  refine WA.quiet 6 (d := 15) (.pointer (some ⟨b1, 0, none⟩)) KC (hi := rfl) (k := ?_)
  refine WA.quietR 7 (d := 16) (.slice A rows.length cp) KC (exec_load (fun w_ k_ => ld1 (T := 22) (i := 0) (k_.heap bh16 id))) (hi := rfl) (k := ?_)
  refine WA.quiet 8 (d := 17) (.int .i64 b) KC (hi := rfl) (k := ?_)
  have hs19 := SlAt.cutD (a := b.toNat) (c := cp) hA (by omega) (by omega)
  refine WA.quietR 9 (d := 18) (.slice (cutA A cp b.toNat 6) ((List.drop b.toNat rows).length) (cp - b.toNat)) KC (exec_cut (vx := .slice A rows.length cp) (lo' := (some (.int .i64 b))) (hi' := none) (mx' := none) (fun _ => run_cutSl (a := b.toNat) (b := rows.length) (c := cp) (m := 6) (E := 53) (by kernel_rfl) (by kernel_rfl) (.inl ⟨rfl, rfl⟩) (.inl ⟨rfl, rfl, rfl⟩) (.inr ⟨_, _, rfl, by omega⟩) (by omega) (by omega) rfl (by simp <;> omega) (by omega))) (hi := rfl) (k := ?_)
  refine WA.quiet 12 (d := 21) (.pointer (some ⟨b1, 1, none⟩)) KC (hi := rfl) (k := ?_)
  refine WA.quietR 13 (d := 22) (.int .i64 md) KC (exec_load (fun w_ k_ => ld1 (T := 3) (i := 1) (k_.heap bh16 id))) (hi := rfl) (k := ?_)
  refine WA.step 10 (hi := rfl) (k := ?_)
  refine WL.newF (d := 19) (T := 22) #[.slice A ((List.take a.toNat rows).length) a.toNat, .slice B ys.length cq, .slice (cutA A cp b.toNat 6) ((List.drop b.toNat rows).length) (cp - b.toNat)] (fun b => .slice (some ⟨b, 0, none⟩) 3 3) (k := fun b20 w21 g22 hb23 k24 => ?_)
  have z25 := Nat.le_trans K.size g22
  have zc26 := Nat.le_trans KC.size g22
  have n27 : b1 ≠ b20 := Nat.ne_of_lt (Nat.lt_of_lt_of_le (lt_of_heap hb4) g22)
  have n28 : b7 ≠ b20 := Nat.ne_of_lt (Nat.lt_of_lt_of_le (lt_of_heap hb10) g22)
  replace hb4 := k24.heap hb4 id
  replace hb10 := k24.heap hb10 id
  replace K := K.trans (k24.any _)
  replace KC := KC.trans (k24.any _)
  refine WL.nil ?_
  refine WX.nxt KC ?_
  refine WA.step 11 (hi := rfl) (k := ?_)
  refine WL.callG (d := 20) (f := 93) (args := #[.slice (some ⟨b20, 0, none⟩) 3 3]) (sConcat3_c (SlAt.of_lit (ys := [(⟨A, List.take a.toNat rows, a.toNat⟩ : GSl), (⟨B, ys, cq⟩ : GSl), (⟨cutA A cp b.toNat 6, List.drop b.toNat rows, (cp - b.toNat)⟩ : GSl)]) ekSl hb23 (by kernel_rfl)) (hs18.adds K) (hB.adds K) (hs19.adds K) (by simp; omega)) (k := fun e_ w29 h_ => ?_)
  obtain ⟨A30, c31, rfl, ho32, k33, ol34⟩ := h_
  refine ⟨_, rfl, ?_⟩
  have ol35 := fun i h => Nat.le_trans K.size (ol34 i h)
  replace hb4 := k33.heap hb4 id
  replace hb10 := k33.heap hb10 id
  replace hb23 := k33.heap hb23 id
  replace K := K.trans (k33.any _)
  replace KC := KC.trans (k33.any _)
  clear ol34
  refine WL.nil ?_
  refine WX.nxt KC ?_
  refine WA.quiet 14 (d := 23) (.agg #[.slice A30 (((List.take a.toNat rows) ++ (ys ++ (List.drop b.toNat rows))).length) c31, .int .i64 md]) KC (hi := rfl) (k := ?_)
  refine WA.step 15 (hi := rfl) (k := ?_)
  refine WL.store (v := .agg #[.slice A30 (((List.take a.toNat rows) ++ (ys ++ (List.drop b.toNat rows))).length) c31, .int .i64 md]) (i := 0) (cs' := #[.slice A30 (((List.take a.toNat rows) ++ (ys ++ (List.drop b.toNat rows))).length) c31, .int .i64 md]) hb10 (k := fun w36 hb37 k38 => ?_)
  replace hb4 := k38.heap hb4 n13
  replace hb23 := k38.heap hb23 (Ne.symm n28)
  replace ho32 := ho32.keeps k38 (fun i hi e => (ho32.offT hb10 (by decide)) (e ▸ hi))
  replace K := K.trans' k38 (fun i hi e => absurd (e ▸ hi) (Nat.not_lt.2 z12))
  clear hb10
  refine WL.nil ?_
  refine WX.nxtL ?_
  refine WA.done (k := ?_)
  clear KC
  refine WX.seqN ?_
  refine WC.ret ?_
  refine WX.ret (rs := [.cell 8 24]) [.agg #[.slice A30 (((List.take a.toNat rows) ++ (ys ++ (List.drop b.toNat rows))).length) c31, .int .i64 md]] (.agg #[.slice A30 (((List.take a.toNat rows) ++ (ys ++ (List.drop b.toNat rows))).length) c31, .int .i64 md]) ⟨⟨_, (by kernel_rfl), ldN (T := 24) (i := 0) (m := 2) (l := [.slice A30 (((List.take a.toNat rows) ++ (ys ++ (List.drop b.toNat rows))).length) c31, .int .i64 md]) hb37⟩, trivial⟩ (k := ?_)
  exact ⟨_, _, rfl, ho32, K, ol35⟩

set_option maxRecDepth 100000 in
theorem sClone_c {A : Option Addr} {cp : Nat} {rows : List GRow} {w : World} (hA : SlAt rowC 6 53 A rows w) (hn : rows.length ≤ 1000000000) : Calls Try.prog 73 #[.slice A rows.length cp] w fun e w' => ∃ A' c', e = .returned (.slice A' rows.length c') ∧ OwAt rowC 6 53 A' c' rows w' ∧ Adds w w' ∧ (∀ i, blk A' = some i → w.heap.size ≤ i) := by
  have K : Keeps (fun _ => False) w w := Keeps.refl _ w
  refine Calls.start Try.func73 rfl (by kernel_rfl) ?_
  refine WC.seq ?_
  refine WC.region ?_
  refine WL.op (d := 2) (.slice none 0 0) (k := ?_)
  refine WL.nil ?_
  refine WX.seqN ?_
  refine WC.seq ?_
  refine WC.seq ?_
  refine WC.region ?_
  refine WL.op (d := 3) (.slice A rows.length cp) (k := ?_)
  refine WL.bin (d := 4) (v := .bool (A).isNone) (nil_slRow A rows.length cp _) (k := ?_)
  refine WL.nil ?_
  refine WX.seqN ?_
  refine WC.cond (b := (A).isNone) (ht := fun h1 => ?_) (hf := fun h1 => ?_)
  · refine WC.seq ?_
    refine WC.region ?_
    refine WL.op (d := 2) (.slice none 0 0) (k := ?_)
    refine WL.nil ?_
    refine WX.seqN ?_
    refine WC.ret ?_
    refine WX.seqR ?_
    refine WX.ret (rs := [.tmp 2]) [.slice none 0 0] (.slice none 0 0) ⟨(by kernel_rfl), trivial⟩ (k := ?_)
    obtain rfl := hA.isNone h1
    exact ⟨none, 0, rfl, OwAt.nil, K, by simp [blk]⟩
  · refine WC.skip ?_
    refine WX.seqN ?_
    refine WC.seq ?_
    refine WC.region ?_
    refine WL.newF (d := 5) (T := 53) #[] (fun b => .slice (some ⟨b, 0, none⟩) 0 0) (k := fun b2 w3 g4 hb5 k6 => ?_)
    have z9 := Nat.le_trans K.size g4
    replace K := K.trans (k6.any _)
    have ho7 := OwAt.empty (cl := rowC) (m := 6) hb5
    have ol8 : ∀ i, blk (some ⟨b2, 0, none⟩) = some i → w.heap.size ≤ i := fun i h => (Option.some.inj h) ▸ z9
    refine WL.op (d := 6) (.slice A rows.length cp) (k := ?_)
    refine WL.append (d := 7) (T := 22) (cl := rowC) (xs := []) (ys := rows) (c := cp) ekRow ho7 (hA.adds K) (by first | omega | (simp; omega)) (k := fun A10 c11 w12 ho13 k14 n15 => ?_)
    have ol16 := olink_step ol8 K n15
    replace K := K.trans' k14 (fun i hi e => absurd hi (Nat.not_lt.2 (ol8 i e)))
    clear ho7
    refine WL.op (d := 2) (.slice A10 (([] ++ rows).length) c11) (k := ?_)
    refine WL.nil ?_
    refine WX.seqN ?_
    refine WC.ret ?_
    refine WX.ret (rs := [.tmp 2]) [.slice A10 (([] ++ rows).length) c11] (.slice A10 (([] ++ rows).length) c11) ⟨(by kernel_rfl), trivial⟩ (k := ?_)
    have e_ : [] ++ rows = rows := by simp
    rw [e_] at ho13 ⊢
    exact ⟨_, _, rfl, ho13, K, ol16⟩

set_option maxRecDepth 100000 in
theorem tAdmits_c {A : Option Addr} {cp : Nat} {rows : List GRow} {w : World} (hA : SlAt rowC 6 53 A rows w) (hc : rows.length ≤ cp) (hn : rows.length ≤ 100000) (md : Int) (o : GOp) (hs : sortedR rows) : Calls Try.prog 72 #[.agg #[.slice A rows.length cp, .int .i64 md], o.val] w (TabRes (admitT ⟨rows, md⟩ o) w) := by
  have K : Keeps (fun _ => False) w w := Keeps.refl _ w
  refine Calls.start Try.func72 rfl (by kernel_rfl) ?_
  refine WC.seq ?_
  refine WC.region ?_
  refine WL.new (d := 2) (T := 24) #[.slice A rows.length cp, .int .i64 md] (k := fun b1 w2 g3 hb4 k5 => ?_)
  have z6 := Nat.le_trans K.size g3
  replace K := K.trans (k5.any _)
  refine WL.new (d := 3) (T := 46) (Value.cells (GOp.val o)) (k := fun b7 w8 g9 hb10 k11 => ?_)
  have z12 := Nat.le_trans K.size g9
  have n13 : b1 ≠ b7 := Nat.ne_of_lt (Nat.lt_of_lt_of_le (lt_of_heap hb4) g9)
  replace hb4 := k11.heap hb4 id
  replace K := K.trans (k11.any _)
  refine WL.new (d := 4) (T := 24) #[.slice none 0 0, .int .i64 0] (k := fun b14 w15 g16 hb17 k18 => ?_)
  have z19 := Nat.le_trans K.size g16
  have n20 : b1 ≠ b14 := Nat.ne_of_lt (Nat.lt_of_lt_of_le (lt_of_heap hb4) g16)
  have n21 : b7 ≠ b14 := Nat.ne_of_lt (Nat.lt_of_lt_of_le (lt_of_heap hb10) g16)
  replace hb4 := k18.heap hb4 id
  replace hb10 := k18.heap hb10 id
  replace K := K.trans (k18.any _)
  refine WL.op (d := 5) (.int .i64 0) (k := ?_)
  refine WL.nil ?_
  refine WX.seqN ?_
  refine WC.seq ?_
  refine WC.region ?_
  refine WL.load (v := .agg #[.slice A rows.length cp, .int .i64 md]) (ldN (T := 24) (i := 0) (m := 2) (l := [.slice A rows.length cp, .int .i64 md]) hb4) (k := ?_)
  refine WL.op (d := 10) (.pointer (some ⟨b7, 1, none⟩)) (k := ?_)
  refine WL.op (d := 11) (.pointer (some ⟨b7, 1, none⟩)) (k := ?_)
  refine WL.load (v := .int .i64 o.task.id) (ld1 (T := 3) (i := 1) hb10) (k := ?_)
  refine WL.callG (d := 13) (f := 71) (args := #[.agg #[.slice A rows.length cp, .int .i64 md], .int .i64 o.task.id]) (tAt_c (cp := cp) (hA.adds K) (by omega) md o.task.id hs) (k := fun e_ w23 h_ => ⟨.tuple #[.int .i64 (posR rows o.task.id : Int), .bool (hasR rows o.task.id)], h_.1, ?_⟩)
  have k24 := h_.2; clear h_
  replace hb4 := k24.heap hb4 id
  replace hb10 := k24.heap hb10 id
  replace hb17 := k24.heap hb17 id
  replace K := K.trans (k24.any _)
  have pl22 := pos_le rows o.task.id
  refine WL.op (d := 8) (.tuple #[.int .i64 (posR rows o.task.id : Int), .bool (hasR rows o.task.id)]) (k := ?_)
  refine WL.op (d := 14) (.int .i64 (posR rows o.task.id : Int)) (k := ?_)
  refine WL.op (d := 15) (.bool (hasR rows o.task.id)) (k := ?_)
  refine WL.op (d := 6) (.int .i64 (posR rows o.task.id : Int)) (k := ?_)
  refine WL.op (d := 7) (.bool (hasR rows o.task.id)) (k := ?_)
  refine WL.nil ?_
  refine WX.seqN ?_
  refine WC.seq ?_
  refine WC.block ?_
  refine WC.seq ?_
  refine WC.region ?_
  refine WL.op (d := 17) (.bool (hasR rows o.task.id)) (k := ?_)
  refine WL.op (d := 16) (.bool (hasR rows o.task.id)) (k := ?_)
  refine WL.nil ?_
  refine WX.seqN ?_
  refine WC.cond (b := hasR rows o.task.id) (ht := fun h25 => ?_) (hf := fun h25 => ?_)
  · have ph25 := has_lt h25
    refine WC.seq ?_
    refine WC.region ?_
    refine WL.op (d := 18) (.agg #[.slice none 0 0, .int .i64 0]) (k := ?_)
    refine WL.store (v := .agg #[.slice none 0 0, .int .i64 0]) (i := 0) (cs' := #[.slice none 0 0, .int .i64 0]) hb17 (k := fun w26 hb27 k28 => ?_)
    replace hb4 := k28.heap hb4 n20
    replace hb10 := k28.heap hb10 n21
    replace K := K.trans' k28 (fun i hi e => absurd (e ▸ hi) (Nat.not_lt.2 z19))
    clear hb17
    refine WL.op (d := 5) (.int .i64 14) (k := ?_)
    refine WL.nil ?_
    refine WX.seqN ?_
    refine WC.ret ?_
    refine WX.blockR ?_
    refine WX.seqR ?_
    refine WX.ret (rs := [.cell 4 24, .tmp 5]) [.agg #[.slice none 0 0, .int .i64 0], .int .i64 14] (.tuple #[.agg #[.slice none 0 0, .int .i64 0], .int .i64 14]) ⟨⟨_, (by kernel_rfl), ldN (T := 24) (i := 0) (m := 2) (l := [.slice none 0 0, .int .i64 0]) hb27⟩, (by kernel_rfl), trivial⟩ (k := ?_)
    exact TabRes.nil (by simp [admitT, GTable.zero, h25]) rfl K
  · have ph25 := has_no h25
    refine WC.seq ?_
    refine WC.region ?_
    refine WL.op (d := 20) (.pointer (some ⟨b1, 0, none⟩)) (k := ?_)
    refine WL.load (v := .slice A rows.length cp) (ld1 (T := 22) (i := 0) hb4) (k := ?_)
    refine WL.op (d := 22) (.int .i64 (rows.length : Int)) (k := ?_)
    refine WL.op (d := 23) (.bool (decide ((rows.length : Int) ≥ 16))) (k := ?_)
    refine WL.op (d := 19) (.bool (decide ((rows.length : Int) ≥ 16))) (k := ?_)
    refine WL.nil ?_
    refine WX.seqN ?_
    refine WC.cond (b := decide ((rows.length : Int) ≥ 16)) (ht := fun h29 => ?_) (hf := fun h29 => ?_)
    · have ph29 := of_decide_eq_true h29
      refine WC.seq ?_
      refine WC.region ?_
      refine WL.op (d := 24) (.agg #[.slice none 0 0, .int .i64 0]) (k := ?_)
      refine WL.store (v := .agg #[.slice none 0 0, .int .i64 0]) (i := 0) (cs' := #[.slice none 0 0, .int .i64 0]) hb17 (k := fun w30 hb31 k32 => ?_)
      replace hb4 := k32.heap hb4 n20
      replace hb10 := k32.heap hb10 n21
      replace K := K.trans' k32 (fun i hi e => absurd (e ▸ hi) (Nat.not_lt.2 z19))
      clear hb17
      refine WL.op (d := 5) (.int .i64 15) (k := ?_)
      refine WL.nil ?_
      refine WX.seqN ?_
      refine WC.ret ?_
      refine WX.blockR ?_
      refine WX.seqR ?_
      refine WX.ret (rs := [.cell 4 24, .tmp 5]) [.agg #[.slice none 0 0, .int .i64 0], .int .i64 15] (.tuple #[.agg #[.slice none 0 0, .int .i64 0], .int .i64 15]) ⟨⟨_, (by kernel_rfl), ldN (T := 24) (i := 0) (m := 2) (l := [.slice none 0 0, .int .i64 0]) hb31⟩, (by kernel_rfl), trivial⟩ (k := ?_)
      exact TabRes.nil (by simp [admitT, GTable.zero, h25, h29, ph29]) rfl K
    · have ph29 := of_decide_eq_false h29
      refine WC.skip ?_
      refine WX.blockN ?_
      refine WX.seqN ?_
      refine WC.seq ?_
      refine WC.region ?_
      refine WL.load (v := .agg #[.slice A rows.length cp, .int .i64 md]) (ldN (T := 24) (i := 0) (m := 2) (l := [.slice A rows.length cp, .int .i64 md]) hb4) (k := ?_)
      refine WL.op (d := 26) (.int .i64 (posR rows o.task.id : Int)) (k := ?_)
      refine WL.op (d := 27) (.int .i64 (posR rows o.task.id : Int)) (k := ?_)
      refine WL.op (d := 28) (.pointer (some ⟨b7, 1, none⟩)) (k := ?_)
      refine WL.load (v := GTask.val o.task) (ldN (T := 44) (i := 1) (m := 5) (l := (Value.cells (GTask.val o.task)).toList) hb10) (k := ?_)
      refine WL.op (d := 30) (.pointer (some ⟨b7, 6, none⟩)) (k := ?_)
      refine WL.load (v := .bool o.sv) (ld1 (T := 4) (i := 6) hb10) (k := ?_)
      refine WL.op (d := 32) (.agg #[.int .i64 o.task.id, .int .i64 o.task.c, .int .i64 o.task.d, .int .i64 o.task.t, .int .i64 o.task.m, .bool o.sv]) (k := ?_)
      refine WL.newF (d := 33) (T := 53) #[.int .i64 o.task.id, .int .i64 o.task.c, .int .i64 o.task.d, .int .i64 o.task.t, .int .i64 o.task.m, .bool o.sv] (fun b => .slice (some ⟨b, 0, none⟩) 1 1) (k := fun b33 w34 g35 hb36 k37 => ?_)
      have z38 := Nat.le_trans K.size g35
      have n39 : b1 ≠ b33 := Nat.ne_of_lt (Nat.lt_of_lt_of_le (lt_of_heap hb4) g35)
      have n40 : b7 ≠ b33 := Nat.ne_of_lt (Nat.lt_of_lt_of_le (lt_of_heap hb10) g35)
      have n41 : b14 ≠ b33 := Nat.ne_of_lt (Nat.lt_of_lt_of_le (lt_of_heap hb17) g35)
      replace hb4 := k37.heap hb4 id
      replace hb10 := k37.heap hb10 id
      replace hb17 := k37.heap hb17 id
      replace K := K.trans (k37.any _)
      refine WL.callG (d := 34) (f := 74) (args := #[.agg #[.slice A rows.length cp, .int .i64 md], .int .i64 (posR rows o.task.id : Int), .int .i64 (posR rows o.task.id : Int), .slice (some ⟨b33, 0, none⟩) 1 1]) (tWith_c (cp := cp) (hA.adds K) (SlAt.of_lit (ys := [(⟨o.task, o.sv⟩ : GRow)]) ekRow hb36 (by kernel_rfl)) (by omega) (by omega) (by simp) md (a := (posR rows o.task.id : Int)) (b := (posR rows o.task.id : Int)) (by omega) (by omega) (by omega) (by omega)) (k := fun e_ w42 h_ => ?_)
      obtain ⟨A43, c44, rfl, ho45, k46, ol47⟩ := h_
      refine ⟨_, rfl, ?_⟩
      have ol48 := fun i h => Nat.le_trans K.size (ol47 i h)
      replace hb4 := k46.heap hb4 id
      replace hb10 := k46.heap hb10 id
      replace hb17 := k46.heap hb17 id
      replace hb36 := k46.heap hb36 id
      replace K := K.trans (k46.any _)
      clear ol47
      refine WL.store (v := .agg #[.slice A43 ((List.take ((posR rows o.task.id : Int)).toNat rows ++ ([(⟨o.task, o.sv⟩ : GRow)] ++ List.drop ((posR rows o.task.id : Int)).toNat rows)).length) c44, .int .i64 md]) (i := 0) (cs' := #[.slice A43 ((List.take ((posR rows o.task.id : Int)).toNat rows ++ ([(⟨o.task, o.sv⟩ : GRow)] ++ List.drop ((posR rows o.task.id : Int)).toNat rows)).length) c44, .int .i64 md]) hb17 (k := fun w49 hb50 k51 => ?_)
      replace hb4 := k51.heap hb4 n20
      replace hb10 := k51.heap hb10 n21
      replace hb36 := k51.heap hb36 (Ne.symm n41)
      replace ho45 := ho45.keeps k51 (fun i hi e => (ho45.offT hb17 (by decide)) (e ▸ hi))
      replace K := K.trans' k51 (fun i hi e => absurd (e ▸ hi) (Nat.not_lt.2 z19))
      clear hb17
      refine WL.op (d := 5) (.int .i64 0) (k := ?_)
      refine WL.nil ?_
      refine WX.seqN ?_
      refine WC.ret ?_
      refine WX.ret (rs := [.cell 4 24, .tmp 5]) [.agg #[.slice A43 ((List.take ((posR rows o.task.id : Int)).toNat rows ++ ([(⟨o.task, o.sv⟩ : GRow)] ++ List.drop ((posR rows o.task.id : Int)).toNat rows)).length) c44, .int .i64 md], .int .i64 0] (.tuple #[.agg #[.slice A43 ((List.take ((posR rows o.task.id : Int)).toNat rows ++ ([(⟨o.task, o.sv⟩ : GRow)] ++ List.drop ((posR rows o.task.id : Int)).toNat rows)).length) c44, .int .i64 md], .int .i64 0]) ⟨⟨_, (by kernel_rfl), ldN (T := 24) (i := 0) (m := 2) (l := [.slice A43 ((List.take ((posR rows o.task.id : Int)).toNat rows ++ ([(⟨o.task, o.sv⟩ : GRow)] ++ List.drop ((posR rows o.task.id : Int)).toNat rows)).length) c44, .int .i64 md]) hb50⟩, (by kernel_rfl), trivial⟩ (k := ?_)
      exact TabRes.mk (by simp [admitT, GTable.zero, h25, h29, ph29]) rfl ho45 K ol48

set_option maxRecDepth 100000 in
theorem tApply_c {A : Option Addr} {cp : Nat} {rows : List GRow} {w : World} (hA : SlAt rowC 6 53 A rows w) (hc : rows.length ≤ cp) (hn : rows.length ≤ 100000) (md : Int) (o : GOp) : Calls Try.prog 30 #[.agg #[.slice A rows.length cp, .int .i64 md], o.val] w (TabRes (applyT ⟨rows, md⟩ o) w) := by
  have K : Keeps (fun _ => False) w w := Keeps.refl _ w
  refine Calls.start Try.func30 rfl (by kernel_rfl) ?_
  refine WC.seq ?_
  refine WC.region ?_
  refine WL.new (d := 2) (T := 24) #[.slice A rows.length cp, .int .i64 md] (k := fun b1 w2 g3 hb4 k5 => ?_)
  have z6 := Nat.le_trans K.size g3
  replace K := K.trans (k5.any _)
  refine WL.new (d := 3) (T := 46) (Value.cells (GOp.val o)) (k := fun b7 w8 g9 hb10 k11 => ?_)
  have z12 := Nat.le_trans K.size g9
  have n13 : b1 ≠ b7 := Nat.ne_of_lt (Nat.lt_of_lt_of_le (lt_of_heap hb4) g9)
  replace hb4 := k11.heap hb4 id
  replace K := K.trans (k11.any _)
  refine WL.new (d := 4) (T := 24) #[.slice none 0 0, .int .i64 0] (k := fun b14 w15 g16 hb17 k18 => ?_)
  have z19 := Nat.le_trans K.size g16
  have n20 : b1 ≠ b14 := Nat.ne_of_lt (Nat.lt_of_lt_of_le (lt_of_heap hb4) g16)
  have n21 : b7 ≠ b14 := Nat.ne_of_lt (Nat.lt_of_lt_of_le (lt_of_heap hb10) g16)
  replace hb4 := k18.heap hb4 id
  replace hb10 := k18.heap hb10 id
  replace K := K.trans (k18.any _)
  refine WL.op (d := 5) (.int .i64 0) (k := ?_)
  refine WL.nil ?_
  refine WX.seqN ?_
  refine WC.seq ?_
  refine WC.seq ?_
  refine WC.region ?_
  refine WL.load (v := .agg #[.slice A rows.length cp, .int .i64 md]) (ldN (T := 24) (i := 0) (m := 2) (l := [.slice A rows.length cp, .int .i64 md]) hb4) (k := ?_)
  refine WL.callG (d := 10) (f := 36) (args := #[.agg #[.slice A rows.length cp, .int .i64 md]]) (tCheck_c (cp := cp) (hA.adds K) (by first | omega | simp | (simp; omega))) (k := fun e_ w22 h_ => ⟨.bool (tokB (⟨rows, md⟩ : GTable)), h_.1, ?_⟩)
  have k23 := h_.2; clear h_
  replace hb4 := k23.heap hb4 id
  replace hb10 := k23.heap hb10 id
  replace hb17 := k23.heap hb17 id
  replace K := K.trans (k23.any _)
  refine WL.op (d := 11) (.bool (!(tokB (⟨rows, md⟩ : GTable)))) (k := ?_)
  refine WL.op (d := 12) (.bool (!(tokB (⟨rows, md⟩ : GTable)))) (k := ?_)
  refine bsplit (!(tokB (⟨rows, md⟩ : GTable))) (fun h24 => ?_) (fun h24 => ?_)
  · have h25 : (tokB (⟨rows, md⟩ : GTable)) = false := by simpa using h24
    have ph25 := tok_f h25
    refine WL.rw (t := 12) (v := .bool true) (congrArg Value.bool h24) (k := ?_)
    refine WL.skip (d := 13) (k := ?_)
    refine WL.skip (d := 14) (k := ?_)
    refine WL.skip (d := 15) (k := ?_)
    refine WL.op (d := 16) (.bool true) (k := ?_)
    refine WL.nil ?_
    refine WX.seqN ?_
    refine WC.condT (k := ?_)
    refine WC.seq ?_
    refine WC.region ?_
    refine WL.op (d := 17) (.agg #[.slice none 0 0, .int .i64 0]) (k := ?_)
    refine WL.store (v := .agg #[.slice none 0 0, .int .i64 0]) (i := 0) (cs' := #[.slice none 0 0, .int .i64 0]) hb17 (k := fun w26 hb27 k28 => ?_)
    replace hb4 := k28.heap hb4 n20
    replace hb10 := k28.heap hb10 n21
    replace K := K.trans' k28 (fun i hi e => absurd (e ▸ hi) (Nat.not_lt.2 z19))
    clear hb17
    refine WL.op (d := 5) (.int .i64 1) (k := ?_)
    refine WL.nil ?_
    refine WX.seqN ?_
    refine WC.ret ?_
    refine WX.seqR ?_
    refine WX.ret (rs := [.cell 4 24, .tmp 5]) [.agg #[.slice none 0 0, .int .i64 0], .int .i64 1] (.tuple #[.agg #[.slice none 0 0, .int .i64 0], .int .i64 1]) ⟨⟨_, (by kernel_rfl), ldN (T := 24) (i := 0) (m := 2) (l := [.slice none 0 0, .int .i64 0]) hb27⟩, (by kernel_rfl), trivial⟩ (k := ?_)
    exact TabRes.nil (by simp [applyT, GTable.zero, h24, h25]) rfl K
  · have h29 : (tokB (⟨rows, md⟩ : GTable)) = true := by simpa using h24
    have ph29 := tok_t h29
    refine WL.rw (t := 12) (v := .bool false) (congrArg Value.bool h24) (k := ?_)
    refine WL.load (v := GOp.val o) (ldN (T := 46) (i := 0) (m := 10) (l := (Value.cells (GOp.val o)).toList) hb10) (k := ?_)
    refine WL.callG (d := 14) (f := 45) (args := #[GOp.val o]) (pOCheck_c o w22) (k := fun e_ w30 h_ => ⟨.bool (decide (GOp.ok o)), h_.1, ?_⟩)
    have k31 := h_.2; clear h_
    replace hb4 := k31.heap hb4 id
    replace hb10 := k31.heap hb10 id
    replace hb17 := k31.heap hb17 id
    replace K := K.trans (k31.any _)
    refine WL.op (d := 15) (.bool (!(decide (GOp.ok o)))) (k := ?_)
    refine WL.op (d := 16) (.bool (!(decide (GOp.ok o)))) (k := ?_)
    refine WL.nil ?_
    refine WX.seqN ?_
    refine WC.cond (b := !(decide (GOp.ok o))) (ht := fun h32 => ?_) (hf := fun h32 => ?_)
    · have h33 : (decide (GOp.ok o)) = false := by simpa using h32
      have ph33 := of_decide_eq_false h33
      refine WC.seq ?_
      refine WC.region ?_
      refine WL.op (d := 17) (.agg #[.slice none 0 0, .int .i64 0]) (k := ?_)
      refine WL.store (v := .agg #[.slice none 0 0, .int .i64 0]) (i := 0) (cs' := #[.slice none 0 0, .int .i64 0]) hb17 (k := fun w34 hb35 k36 => ?_)
      replace hb4 := k36.heap hb4 n20
      replace hb10 := k36.heap hb10 n21
      replace K := K.trans' k36 (fun i hi e => absurd (e ▸ hi) (Nat.not_lt.2 z19))
      clear hb17
      refine WL.op (d := 5) (.int .i64 1) (k := ?_)
      refine WL.nil ?_
      refine WX.seqN ?_
      refine WC.ret ?_
      refine WX.seqR ?_
      refine WX.ret (rs := [.cell 4 24, .tmp 5]) [.agg #[.slice none 0 0, .int .i64 0], .int .i64 1] (.tuple #[.agg #[.slice none 0 0, .int .i64 0], .int .i64 1]) ⟨⟨_, (by kernel_rfl), ldN (T := 24) (i := 0) (m := 2) (l := [.slice none 0 0, .int .i64 0]) hb35⟩, (by kernel_rfl), trivial⟩ (k := ?_)
      exact TabRes.nil (by simp [applyT, GTable.zero, h24, h29, h32, h33, ph33]) rfl K
    · have h37 : (decide (GOp.ok o)) = true := by simpa using h32
      have ph37 := of_decide_eq_true h37
      refine WC.skip ?_
      refine WX.seqN ?_
      refine WC.seq ?_
      refine WC.region ?_
      refine WL.load (v := .agg #[.slice A rows.length cp, .int .i64 md]) (ldN (T := 24) (i := 0) (m := 2) (l := [.slice A rows.length cp, .int .i64 md]) hb4) (k := ?_)
      refine WL.op (d := 20) (.pointer (some ⟨b7, 7, none⟩)) (k := ?_)
      refine WL.load (v := .int .i64 o.id) (ld1 (T := 3) (i := 7) hb10) (k := ?_)
      refine WL.callG (d := 22) (f := 71) (args := #[.agg #[.slice A rows.length cp, .int .i64 md], .int .i64 o.id]) (tAt_c (cp := cp) (hA.adds K) (by omega) md o.id (upTo_sorted ph29.1)) (k := fun e_ w39 h_ => ⟨.tuple #[.int .i64 (posR rows o.id : Int), .bool (hasR rows o.id)], h_.1, ?_⟩)
      have k40 := h_.2; clear h_
      replace hb4 := k40.heap hb4 id
      replace hb10 := k40.heap hb10 id
      replace hb17 := k40.heap hb17 id
      replace K := K.trans (k40.any _)
      have pl38 := pos_le rows o.id
      refine WL.op (d := 18) (.tuple #[.int .i64 (posR rows o.id : Int), .bool (hasR rows o.id)]) (k := ?_)
      refine WL.op (d := 23) (.int .i64 (posR rows o.id : Int)) (k := ?_)
      refine WL.op (d := 24) (.bool (hasR rows o.id)) (k := ?_)
      refine WL.op (d := 6) (.int .i64 (posR rows o.id : Int)) (k := ?_)
      refine WL.op (d := 7) (.bool (hasR rows o.id)) (k := ?_)
      refine WL.nil ?_
      refine WX.seqN ?_
      refine WC.seq ?_
      refine WC.block ?_
      refine WC.seq ?_
      refine WC.region ?_
      refine WL.op (d := 26) (.pointer (some ⟨b7, 0, none⟩)) (k := ?_)
      refine WL.load (v := .int .i64 o.kind) (ld1 (T := 3) (i := 0) hb10) (k := ?_)
      refine WL.op (d := 28) (.bool (o.kind == 1)) (k := ?_)
      refine WL.op (d := 25) (.bool (o.kind == 1)) (k := ?_)
      refine WL.nil ?_
      refine WX.seqN ?_
      refine WC.cond (b := o.kind == 1) (ht := fun h41 => ?_) (hf := fun h41 => ?_)
      · have ph41 := eq_of_beq h41
        refine WC.seq ?_
        refine WC.region ?_
        refine WL.load (v := .agg #[.slice A rows.length cp, .int .i64 md]) (ldN (T := 24) (i := 0) (m := 2) (l := [.slice A rows.length cp, .int .i64 md]) hb4) (k := ?_)
        refine WL.load (v := GOp.val o) (ldN (T := 46) (i := 0) (m := 10) (l := (Value.cells (GOp.val o)).toList) hb10) (k := ?_)
        refine WL.callG (d := 31) (f := 72) (args := #[.agg #[.slice A rows.length cp, .int .i64 md], GOp.val o]) (tAdmits_c (cp := cp) (hA.adds K) (by omega) (by omega) md o (upTo_sorted ph29.1)) (k := fun e_ w42 h_ => ?_)
        obtain ⟨A43, c44, rfl, ho45, k46, ol47⟩ := h_
        refine ⟨_, rfl, ?_⟩
        have ol48 := fun i h => Nat.le_trans K.size (ol47 i h)
        replace hb4 := k46.heap hb4 id
        replace hb10 := k46.heap hb10 id
        replace hb17 := k46.heap hb17 id
        replace K := K.trans (k46.any _)
        clear ol47
        refine WL.op (d := 32) (.agg #[.slice A43 (((admitT (⟨rows, md⟩ : GTable) o).1.rows).length) c44, .int .i64 ((admitT (⟨rows, md⟩ : GTable) o).1.mode)]) (k := ?_)
        refine WL.op (d := 33) (.int .i64 ((admitT (⟨rows, md⟩ : GTable) o).2)) (k := ?_)
        refine WL.store (v := .agg #[.slice A43 (((admitT (⟨rows, md⟩ : GTable) o).1.rows).length) c44, .int .i64 ((admitT (⟨rows, md⟩ : GTable) o).1.mode)]) (i := 0) (cs' := #[.slice A43 (((admitT (⟨rows, md⟩ : GTable) o).1.rows).length) c44, .int .i64 ((admitT (⟨rows, md⟩ : GTable) o).1.mode)]) hb17 (k := fun w49 hb50 k51 => ?_)
        replace hb4 := k51.heap hb4 n20
        replace hb10 := k51.heap hb10 n21
        replace ho45 := ho45.keeps k51 (fun i hi e => (ho45.offT hb17 (by decide)) (e ▸ hi))
        replace K := K.trans' k51 (fun i hi e => absurd (e ▸ hi) (Nat.not_lt.2 z19))
        clear hb17
        refine WL.op (d := 5) (.int .i64 ((admitT (⟨rows, md⟩ : GTable) o).2)) (k := ?_)
        refine WL.nil ?_
        refine WX.seqN ?_
        refine WC.ret ?_
        refine WX.blockR ?_
        refine WX.seqR ?_
        refine WX.ret (rs := [.cell 4 24, .tmp 5]) [.agg #[.slice A43 (((admitT (⟨rows, md⟩ : GTable) o).1.rows).length) c44, .int .i64 ((admitT (⟨rows, md⟩ : GTable) o).1.mode)], .int .i64 ((admitT (⟨rows, md⟩ : GTable) o).2)] (.tuple #[.agg #[.slice A43 (((admitT (⟨rows, md⟩ : GTable) o).1.rows).length) c44, .int .i64 ((admitT (⟨rows, md⟩ : GTable) o).1.mode)], .int .i64 ((admitT (⟨rows, md⟩ : GTable) o).2)]) ⟨⟨_, (by kernel_rfl), ldN (T := 24) (i := 0) (m := 2) (l := [.slice A43 (((admitT (⟨rows, md⟩ : GTable) o).1.rows).length) c44, .int .i64 ((admitT (⟨rows, md⟩ : GTable) o).1.mode)]) hb50⟩, (by kernel_rfl), trivial⟩ (k := ?_)
        exact TabRes.mk (by simp [applyT, GTable.zero, h24, h29, h32, h37, h41, ph37, ph41]) rfl ho45 K ol48
      · have ph41 := ne_of_beq_false h41
        refine WC.seq ?_
        refine WC.region ?_
        refine WL.op (d := 35) (.pointer (some ⟨b7, 0, none⟩)) (k := ?_)
        refine WL.load (v := .int .i64 o.kind) (ld1 (T := 3) (i := 0) hb10) (k := ?_)
        refine WL.op (d := 37) (.bool (o.kind == 4)) (k := ?_)
        refine WL.op (d := 34) (.bool (o.kind == 4)) (k := ?_)
        refine WL.nil ?_
        refine WX.seqN ?_
        refine WC.cond (b := o.kind == 4) (ht := fun h52 => ?_) (hf := fun h52 => ?_)
        · have ph52 := eq_of_beq h52
          refine WC.seq ?_
          refine WC.mixed (fun k => k = b14) 7 (k := fun w53 k54 => ?_)
          replace hb4 := k54.heap hb4 id
          replace hb10 := k54.heap hb10 id
          replace hb17 := k54.heap hb17 id
          replace K := K.trans (k54.any _)
          have KC := Keeps.refl (fun k => k = b14) w53
          have bh55 := hb4
          have bh56 := hb10
          have bh57 := hb17
          have Kb := K
          refine WA.quiet 0 (d := 38) (.pointer (some ⟨b1, 0, none⟩)) KC (hi := rfl) (k := ?_)
          refine WA.quietR 1 (d := 39) (.slice A rows.length cp) KC (exec_load (fun w_ k_ => ld1 (T := 22) (i := 0) (k_.heap bh55 n20))) (hi := rfl) (k := ?_)
          refine WA.quiet 3 (d := 41) (.pointer (some ⟨b7, 9, none⟩)) KC (hi := rfl) (k := ?_)
          refine WA.quietR 4 (d := 42) (.int .i64 o.m) KC (exec_load (fun w_ k_ => ld1 (T := 3) (i := 9) (k_.heap bh56 n21))) (hi := rfl) (k := ?_)
          refine WA.step 2 (hi := rfl) (k := ?_)
          refine WL.callG (d := 40) (f := 73) (args := #[.slice A rows.length cp]) (sClone_c (cp := cp) (hA.adds K) (by omega)) (k := fun e_ w58 h_ => ?_)
          obtain ⟨A59, c60, rfl, ho61, k62, ol63⟩ := h_
          refine ⟨_, rfl, ?_⟩
          have ol64 := fun i h => Nat.le_trans K.size (ol63 i h)
          replace hb4 := k62.heap hb4 id
          replace hb10 := k62.heap hb10 id
          replace hb17 := k62.heap hb17 id
          replace K := K.trans (k62.any _)
          replace KC := KC.trans (k62.any _)
          clear ol63
          refine WL.nil ?_
          refine WX.nxt KC ?_
          refine WA.quiet 5 (d := 43) (.agg #[.slice A59 ((rows).length) c60, .int .i64 o.m]) KC (hi := rfl) (k := ?_)
          refine WA.step 6 (hi := rfl) (k := ?_)
          refine WL.store (v := .agg #[.slice A59 ((rows).length) c60, .int .i64 o.m]) (i := 0) (cs' := #[.slice A59 ((rows).length) c60, .int .i64 o.m]) hb17 (k := fun w65 hb66 k67 => ?_)
          replace hb4 := k67.heap hb4 n20
          replace hb10 := k67.heap hb10 n21
          replace ho61 := ho61.keeps k67 (fun i hi e => (ho61.offT hb17 (by decide)) (e ▸ hi))
          replace K := K.trans' k67 (fun i hi e => absurd (e ▸ hi) (Nat.not_lt.2 z19))
          replace KC := KC.trans' k67 (fun i hi e => e)
          clear hb17
          refine WL.nil ?_
          refine WX.nxt KC ?_
          refine WA.step 7 (hi := rfl) (k := ?_)
          refine WL.op (d := 5) (.int .i64 0) (k := ?_)
          refine WL.nil ?_
          refine WX.nxtL ?_
          refine WA.done (k := ?_)
          clear KC
          refine WX.seqN ?_
          refine WC.ret ?_
          refine WX.blockR ?_
          refine WX.seqR ?_
          refine WX.ret (rs := [.cell 4 24, .tmp 5]) [.agg #[.slice A59 ((rows).length) c60, .int .i64 o.m], .int .i64 0] (.tuple #[.agg #[.slice A59 ((rows).length) c60, .int .i64 o.m], .int .i64 0]) ⟨⟨_, (by kernel_rfl), ldN (T := 24) (i := 0) (m := 2) (l := [.slice A59 ((rows).length) c60, .int .i64 o.m]) hb66⟩, (by kernel_rfl), trivial⟩ (k := ?_)
          exact TabRes.mk (by simp [applyT, GTable.zero, h24, h29, h32, h37, h41, h52, ph37, ph41, ph52]) rfl ho61 K ol64
        · have ph52 := ne_of_beq_false h52
          refine WC.seq ?_
          refine WC.region ?_
          refine WL.op (d := 45) (.bool (hasR rows o.id)) (k := ?_)
          refine WL.op (d := 46) (.bool (!(hasR rows o.id))) (k := ?_)
          refine WL.op (d := 44) (.bool (!(hasR rows o.id))) (k := ?_)
          refine WL.nil ?_
          refine WX.seqN ?_
          refine WC.cond (b := !(hasR rows o.id)) (ht := fun h68 => ?_) (hf := fun h68 => ?_)
          · have h69 : (hasR rows o.id) = false := by simpa using h68
            have ph69 := has_no h69
            refine WC.seq ?_
            refine WC.region ?_
            refine WL.op (d := 47) (.agg #[.slice none 0 0, .int .i64 0]) (k := ?_)
            refine WL.store (v := .agg #[.slice none 0 0, .int .i64 0]) (i := 0) (cs' := #[.slice none 0 0, .int .i64 0]) hb17 (k := fun w70 hb71 k72 => ?_)
            replace hb4 := k72.heap hb4 n20
            replace hb10 := k72.heap hb10 n21
            replace K := K.trans' k72 (fun i hi e => absurd (e ▸ hi) (Nat.not_lt.2 z19))
            clear hb17
            refine WL.op (d := 5) (.int .i64 12) (k := ?_)
            refine WL.nil ?_
            refine WX.seqN ?_
            refine WC.ret ?_
            refine WX.blockR ?_
            refine WX.seqR ?_
            refine WX.ret (rs := [.cell 4 24, .tmp 5]) [.agg #[.slice none 0 0, .int .i64 0], .int .i64 12] (.tuple #[.agg #[.slice none 0 0, .int .i64 0], .int .i64 12]) ⟨⟨_, (by kernel_rfl), ldN (T := 24) (i := 0) (m := 2) (l := [.slice none 0 0, .int .i64 0]) hb71⟩, (by kernel_rfl), trivial⟩ (k := ?_)
            exact TabRes.nil (by simp [applyT, GTable.zero, h24, h29, h32, h37, h41, h52, h68, h69, ph37, ph41, ph52]) rfl K
          · have h73 : (hasR rows o.id) = true := by simpa using h68
            have ph73 := has_lt h73
            refine WC.seq ?_
            refine WC.region ?_
            refine WL.op (d := 49) (.pointer (some ⟨b7, 0, none⟩)) (k := ?_)
            refine WL.load (v := .int .i64 o.kind) (ld1 (T := 3) (i := 0) hb10) (k := ?_)
            refine WL.op (d := 51) (.bool (o.kind == 2)) (k := ?_)
            refine WL.op (d := 48) (.bool (o.kind == 2)) (k := ?_)
            refine WL.nil ?_
            refine WX.seqN ?_
            refine WC.cond (b := o.kind == 2) (ht := fun h74 => ?_) (hf := fun h74 => ?_)
            · have ph74 := eq_of_beq h74
              refine WC.seq ?_
              refine WC.region ?_
              refine WL.load (v := .agg #[.slice A rows.length cp, .int .i64 md]) (ldN (T := 24) (i := 0) (m := 2) (l := [.slice A rows.length cp, .int .i64 md]) hb4) (k := ?_)
              refine WL.op (d := 53) (.int .i64 (posR rows o.id : Int)) (k := ?_)
              refine WL.op (d := 54) (.int .i64 (posR rows o.id : Int)) (k := ?_)
              refine WL.opE (d := 55) (.int .i64 (IntKind.i64.wrap ((posR rows o.id : Int) + 1))) (v := .int .i64 ((posR rows o.id : Int) + 1)) (congrArg (Value.int .i64) (IntWalk.i64_in _ (by omega))) (k := ?_)
              refine WL.callG (d := 56) (f := 74) (args := #[.agg #[.slice A rows.length cp, .int .i64 md], .int .i64 (posR rows o.id : Int), .int .i64 ((posR rows o.id : Int) + 1), .slice none 0 0]) (tWith_c (cp := cp) (hA.adds K) SlAt.nil (by omega) (by omega) (by simp) md (a := (posR rows o.id : Int)) (b := (posR rows o.id : Int) + 1) (by omega) (by omega) (by omega) (by omega)) (k := fun e_ w75 h_ => ?_)
              obtain ⟨A76, c77, rfl, ho78, k79, ol80⟩ := h_
              refine ⟨_, rfl, ?_⟩
              have ol81 := fun i h => Nat.le_trans K.size (ol80 i h)
              replace hb4 := k79.heap hb4 id
              replace hb10 := k79.heap hb10 id
              replace hb17 := k79.heap hb17 id
              replace K := K.trans (k79.any _)
              clear ol80
              refine WL.store (v := .agg #[.slice A76 ((List.take ((posR rows o.id : Int)).toNat rows ++ ([] ++ List.drop ((posR rows o.id : Int) + 1).toNat rows)).length) c77, .int .i64 md]) (i := 0) (cs' := #[.slice A76 ((List.take ((posR rows o.id : Int)).toNat rows ++ ([] ++ List.drop ((posR rows o.id : Int) + 1).toNat rows)).length) c77, .int .i64 md]) hb17 (k := fun w82 hb83 k84 => ?_)
              replace hb4 := k84.heap hb4 n20
              replace hb10 := k84.heap hb10 n21
              replace ho78 := ho78.keeps k84 (fun i hi e => (ho78.offT hb17 (by decide)) (e ▸ hi))
              replace K := K.trans' k84 (fun i hi e => absurd (e ▸ hi) (Nat.not_lt.2 z19))
              clear hb17
              refine WL.op (d := 5) (.int .i64 0) (k := ?_)
              refine WL.nil ?_
              refine WX.seqN ?_
              refine WC.ret ?_
              refine WX.blockR ?_
              refine WX.seqR ?_
              refine WX.ret (rs := [.cell 4 24, .tmp 5]) [.agg #[.slice A76 ((List.take ((posR rows o.id : Int)).toNat rows ++ ([] ++ List.drop ((posR rows o.id : Int) + 1).toNat rows)).length) c77, .int .i64 md], .int .i64 0] (.tuple #[.agg #[.slice A76 ((List.take ((posR rows o.id : Int)).toNat rows ++ ([] ++ List.drop ((posR rows o.id : Int) + 1).toNat rows)).length) c77, .int .i64 md], .int .i64 0]) ⟨⟨_, (by kernel_rfl), ldN (T := 24) (i := 0) (m := 2) (l := [.slice A76 ((List.take ((posR rows o.id : Int)).toNat rows ++ ([] ++ List.drop ((posR rows o.id : Int) + 1).toNat rows)).length) c77, .int .i64 md]) hb83⟩, (by kernel_rfl), trivial⟩ (k := ?_)
              exact TabRes.mk (by simp [applyT, GTable.zero, h24, h29, h32, h37, h41, h52, h68, h73, h74, ph37, ph41, ph52, ph74]) rfl ho78 K ol81
            · have ph74 := ne_of_beq_false h74
              refine WC.seq ?_
              refine WC.quiet (k := ?_)
              refine WQ.op (d := 58) (.pointer (some ⟨b7, 8, none⟩)) (k := ?_)
              refine WQ.load (v := .int .i64 o.c) (fun w_ k_ => ld1 (T := 2) (i := 8) (k_.heap hb10 id)) (k := ?_)
              refine WQ.op (d := 60) (.pointer (some ⟨b1, 0, none⟩)) (k := ?_)
              refine WQ.load (v := .slice A rows.length cp) (fun w_ k_ => ld1 (T := 22) (i := 0) (k_.heap hb4 id)) (k := ?_)
              refine WQ.op (d := 62) (.int .i64 (posR rows o.id : Int)) (k := ?_)
              obtain ⟨b85, o86, r87, hr88, hA89, he90⟩ := SlAt.at hA (i := (posR rows o.id : Int)) (by omega) (by omega)
              refine WQ.rw (t := 61) (v := .slice (some ⟨b85, o86, none⟩) rows.length cp) (congrArg (fun a => Value.slice a rows.length cp) hA89) (k := ?_)
              refine WQ.idx (T := 22) (E := 53) (m := 6) (b := b85) (o := o86) (len := rows.length) (cap := cp) (i := (posR rows o.id : Int)) (kk := .i64) (d := 63) (by omega) (by omega) (k := ?_)
              refine WQ.rw (t := 61) (v := .slice A rows.length cp) (congrArg (fun a => Value.slice a rows.length cp) (Eq.symm hA89)) (k := ?_)
              refine WQ.op (d := 64) (.pointer (some ⟨b85, o86 + ((posR rows o.id : Int)).toNat * 6, none⟩)) (k := ?_)
              refine WQ.op (d := 65) (.pointer (some ⟨b85, o86 + ((posR rows o.id : Int)).toNat * 6 + 2, none⟩)) (k := ?_)
              refine WQ.load (v := .int .i64 r87.task.d) (fun w_ k_ => ((he90.adds K).adds k_).ldF (T := 2) (off := 2)) (k := ?_)
              refine WQ.op (d := 67) (.bool (decide (o.c > r87.task.d))) (k := ?_)
              refine WQ.op (d := 57) (.bool (decide (o.c > r87.task.d))) (k := ?_)
              refine WQ.nilX (fun w91 k92 => ?_)
              replace hb4 := k92.heap hb4 id
              replace hb10 := k92.heap hb10 id
              replace hb17 := k92.heap hb17 id
              replace K := K.trans (k92.any _)
              refine WX.seqN ?_
              refine WC.cond (b := decide (o.c > r87.task.d)) (ht := fun h93 => ?_) (hf := fun h93 => ?_)
              · have ph93 := of_decide_eq_true h93
                refine WC.seq ?_
                refine WC.region ?_
                refine WL.op (d := 68) (.agg #[.slice none 0 0, .int .i64 0]) (k := ?_)
                refine WL.store (v := .agg #[.slice none 0 0, .int .i64 0]) (i := 0) (cs' := #[.slice none 0 0, .int .i64 0]) hb17 (k := fun w94 hb95 k96 => ?_)
                replace hb4 := k96.heap hb4 n20
                replace hb10 := k96.heap hb10 n21
                replace K := K.trans' k96 (fun i hi e => absurd (e ▸ hi) (Nat.not_lt.2 z19))
                clear hb17
                refine WL.op (d := 5) (.int .i64 1) (k := ?_)
                refine WL.nil ?_
                refine WX.seqN ?_
                refine WC.ret ?_
                refine WX.blockR ?_
                refine WX.seqR ?_
                refine WX.ret (rs := [.cell 4 24, .tmp 5]) [.agg #[.slice none 0 0, .int .i64 0], .int .i64 1] (.tuple #[.agg #[.slice none 0 0, .int .i64 0], .int .i64 1]) ⟨⟨_, (by kernel_rfl), ldN (T := 24) (i := 0) (m := 2) (l := [.slice none 0 0, .int .i64 0]) hb95⟩, (by kernel_rfl), trivial⟩ (k := ?_)
                have hr_ := hr88
                simp only [Int.toNat_natCast] at hr_
                exact TabRes.nil (by simp [applyT, GTable.zero, h24, h29, h32, h37, h41, h52, h68, h73, h74, h93, ph37, ph41, ph52, ph74, ph93, hr_]) rfl K
              · have ph93 := of_decide_eq_false h93
                refine WC.skip ?_
                refine WX.blockN ?_
                refine WX.seqN ?_
                refine WC.seq ?_
                refine WC.region ?_
                refine WL.op (d := 69) (.pointer (some ⟨b1, 0, none⟩)) (k := ?_)
                refine WL.load (v := .slice A rows.length cp) (ld1 (T := 22) (i := 0) hb4) (k := ?_)
                refine WL.op (d := 71) (.int .i64 (posR rows o.id : Int)) (k := ?_)
                obtain ⟨b97, o98, r99, hr100, hA101, he102⟩ := SlAt.at hA (i := (posR rows o.id : Int)) (by omega) (by omega)
                refine WL.rw (t := 70) (v := .slice (some ⟨b97, o98, none⟩) rows.length cp) (congrArg (fun a => Value.slice a rows.length cp) hA101) (k := ?_)
                refine WL.idx (T := 22) (E := 53) (m := 6) (b := b97) (o := o98) (len := rows.length) (cap := cp) (i := (posR rows o.id : Int)) (kk := .i64) (d := 72) (by omega) (by omega) (k := ?_)
                refine WL.rw (t := 70) (v := .slice A rows.length cp) (congrArg (fun a => Value.slice a rows.length cp) (Eq.symm hA101)) (k := ?_)
                refine WL.load (v := GRow.val r99) ((he102.adds K).ldW (T := 53)) (k := ?_)
                refine WL.new (d := 8) (T := 53) #[.int .i64 0, .int .i64 0, .int .i64 0, .int .i64 0, .int .i64 0, .bool false] (k := fun b103 w104 g105 hb106 k107 => ?_)
                have z108 := Nat.le_trans K.size g105
                have n109 : b1 ≠ b103 := Nat.ne_of_lt (Nat.lt_of_lt_of_le (lt_of_heap hb4) g105)
                have n110 : b7 ≠ b103 := Nat.ne_of_lt (Nat.lt_of_lt_of_le (lt_of_heap hb10) g105)
                have n111 : b14 ≠ b103 := Nat.ne_of_lt (Nat.lt_of_lt_of_le (lt_of_heap hb17) g105)
                replace hb4 := k107.heap hb4 id
                replace hb10 := k107.heap hb10 id
                replace hb17 := k107.heap hb17 id
                replace K := K.trans (k107.any _)
                refine WL.store (v := GRow.val r99) (i := 0) (cs' := (Value.cells (GRow.val r99))) hb106 (k := fun w112 hb113 k114 => ?_)
                replace hb4 := k114.heap hb4 n109
                replace hb10 := k114.heap hb10 n110
                replace hb17 := k114.heap hb17 n111
                replace K := K.trans' k114 (fun i hi e => absurd (e ▸ hi) (Nat.not_lt.2 z108))
                clear hb106
                refine WL.nil ?_
                refine WX.seqN ?_
                refine WC.seq ?_
                refine WC.region ?_
                refine WL.op (d := 74) (.pointer (some ⟨b7, 8, none⟩)) (k := ?_)
                refine WL.load (v := .int .i64 o.c) (ld1 (T := 2) (i := 8) hb10) (k := ?_)
                refine WL.op (d := 76) (.pointer (some ⟨b103, 0, none⟩)) (k := ?_)
                refine WL.op (d := 77) (.pointer (some ⟨b103, 1, none⟩)) (k := ?_)
                refine WL.store (v := .int .i64 o.c) (i := 1) (cs' := #[.int .i64 r99.task.id, .int .i64 o.c, .int .i64 r99.task.d, .int .i64 r99.task.t, .int .i64 r99.task.m, .bool r99.sv]) hb113 (k := fun w115 hb116 k117 => ?_)
                replace hb4 := k117.heap hb4 n109
                replace hb10 := k117.heap hb10 n110
                replace hb17 := k117.heap hb17 n111
                replace K := K.trans' k117 (fun i hi e => absurd (e ▸ hi) (Nat.not_lt.2 z108))
                clear hb113
                refine WL.nil ?_
                refine WX.seqN ?_
                refine WC.seq ?_
                refine WC.region ?_
                refine WL.load (v := .agg #[.slice A rows.length cp, .int .i64 md]) (ldN (T := 24) (i := 0) (m := 2) (l := [.slice A rows.length cp, .int .i64 md]) hb4) (k := ?_)
                refine WL.op (d := 79) (.int .i64 (posR rows o.id : Int)) (k := ?_)
                refine WL.op (d := 80) (.int .i64 (posR rows o.id : Int)) (k := ?_)
                refine WL.opE (d := 81) (.int .i64 (IntKind.i64.wrap ((posR rows o.id : Int) + 1))) (v := .int .i64 ((posR rows o.id : Int) + 1)) (congrArg (Value.int .i64) (IntWalk.i64_in _ (by omega))) (k := ?_)
                refine WL.load (v := .agg #[.int .i64 r99.task.id, .int .i64 o.c, .int .i64 r99.task.d, .int .i64 r99.task.t, .int .i64 r99.task.m, .bool r99.sv]) (ldN (T := 53) (i := 0) (m := 6) (l := [.int .i64 r99.task.id, .int .i64 o.c, .int .i64 r99.task.d, .int .i64 r99.task.t, .int .i64 r99.task.m, .bool r99.sv]) hb116) (k := ?_)
                refine WL.newF (d := 83) (T := 53) #[.int .i64 r99.task.id, .int .i64 o.c, .int .i64 r99.task.d, .int .i64 r99.task.t, .int .i64 r99.task.m, .bool r99.sv] (fun b => .slice (some ⟨b, 0, none⟩) 1 1) (k := fun b118 w119 g120 hb121 k122 => ?_)
                have z123 := Nat.le_trans K.size g120
                have n124 : b1 ≠ b118 := Nat.ne_of_lt (Nat.lt_of_lt_of_le (lt_of_heap hb4) g120)
                have n125 : b7 ≠ b118 := Nat.ne_of_lt (Nat.lt_of_lt_of_le (lt_of_heap hb10) g120)
                have n126 : b14 ≠ b118 := Nat.ne_of_lt (Nat.lt_of_lt_of_le (lt_of_heap hb17) g120)
                have n127 : b103 ≠ b118 := Nat.ne_of_lt (Nat.lt_of_lt_of_le (lt_of_heap hb116) g120)
                replace hb4 := k122.heap hb4 id
                replace hb10 := k122.heap hb10 id
                replace hb17 := k122.heap hb17 id
                replace hb116 := k122.heap hb116 id
                replace K := K.trans (k122.any _)
                refine WL.callG (d := 84) (f := 74) (args := #[.agg #[.slice A rows.length cp, .int .i64 md], .int .i64 (posR rows o.id : Int), .int .i64 ((posR rows o.id : Int) + 1), .slice (some ⟨b118, 0, none⟩) 1 1]) (tWith_c (cp := cp) (hA.adds K) (SlAt.of_lit (ys := [(⟨⟨r99.task.id, o.c, r99.task.d, r99.task.t, r99.task.m⟩, r99.sv⟩ : GRow)]) ekRow hb121 (by kernel_rfl)) (by omega) (by omega) (by simp) md (a := (posR rows o.id : Int)) (b := (posR rows o.id : Int) + 1) (by omega) (by omega) (by omega) (by omega)) (k := fun e_ w128 h_ => ?_)
                obtain ⟨A129, c130, rfl, ho131, k132, ol133⟩ := h_
                refine ⟨_, rfl, ?_⟩
                have ol134 := fun i h => Nat.le_trans K.size (ol133 i h)
                replace hb4 := k132.heap hb4 id
                replace hb10 := k132.heap hb10 id
                replace hb17 := k132.heap hb17 id
                replace hb116 := k132.heap hb116 id
                replace hb121 := k132.heap hb121 id
                replace K := K.trans (k132.any _)
                clear ol133
                refine WL.store (v := .agg #[.slice A129 ((List.take ((posR rows o.id : Int)).toNat rows ++ ([(⟨⟨r99.task.id, o.c, r99.task.d, r99.task.t, r99.task.m⟩, r99.sv⟩ : GRow)] ++ List.drop ((posR rows o.id : Int) + 1).toNat rows)).length) c130, .int .i64 md]) (i := 0) (cs' := #[.slice A129 ((List.take ((posR rows o.id : Int)).toNat rows ++ ([(⟨⟨r99.task.id, o.c, r99.task.d, r99.task.t, r99.task.m⟩, r99.sv⟩ : GRow)] ++ List.drop ((posR rows o.id : Int) + 1).toNat rows)).length) c130, .int .i64 md]) hb17 (k := fun w135 hb136 k137 => ?_)
                replace hb4 := k137.heap hb4 n20
                replace hb10 := k137.heap hb10 n21
                replace hb116 := k137.heap hb116 (Ne.symm n111)
                replace hb121 := k137.heap hb121 (Ne.symm n126)
                replace ho131 := ho131.keeps k137 (fun i hi e => (ho131.offT hb17 (by decide)) (e ▸ hi))
                replace K := K.trans' k137 (fun i hi e => absurd (e ▸ hi) (Nat.not_lt.2 z19))
                clear hb17
                refine WL.op (d := 5) (.int .i64 0) (k := ?_)
                refine WL.nil ?_
                refine WX.seqN ?_
                refine WC.ret ?_
                refine WX.ret (rs := [.cell 4 24, .tmp 5]) [.agg #[.slice A129 ((List.take ((posR rows o.id : Int)).toNat rows ++ ([(⟨⟨r99.task.id, o.c, r99.task.d, r99.task.t, r99.task.m⟩, r99.sv⟩ : GRow)] ++ List.drop ((posR rows o.id : Int) + 1).toNat rows)).length) c130, .int .i64 md], .int .i64 0] (.tuple #[.agg #[.slice A129 ((List.take ((posR rows o.id : Int)).toNat rows ++ ([(⟨⟨r99.task.id, o.c, r99.task.d, r99.task.t, r99.task.m⟩, r99.sv⟩ : GRow)] ++ List.drop ((posR rows o.id : Int) + 1).toNat rows)).length) c130, .int .i64 md], .int .i64 0]) ⟨⟨_, (by kernel_rfl), ldN (T := 24) (i := 0) (m := 2) (l := [.slice A129 ((List.take ((posR rows o.id : Int)).toNat rows ++ ([(⟨⟨r99.task.id, o.c, r99.task.d, r99.task.t, r99.task.m⟩, r99.sv⟩ : GRow)] ++ List.drop ((posR rows o.id : Int) + 1).toNat rows)).length) c130, .int .i64 md]) hb136⟩, (by kernel_rfl), trivial⟩ (k := ?_)
                obtain rfl : r99 = r87 := Option.some.inj (hr100.symm.trans hr88)
                have hr_ := hr88
                simp only [Int.toNat_natCast] at hr_
                exact TabRes.mk (by simp [applyT, GTable.zero, h24, h29, h32, h37, h41, h52, h68, h73, h74, h93, ph37, ph41, ph52, ph74, ph93, hr_]) rfl ho131 K ol134

end Go.Proofs.Ytpkcohhfkeinmaa
