/- A mode's tasks. -/
import Derived.Test.YtpkcohhfkeinmaaSt6
import Derived.Test.YtpkcohhfkeinmaaSt1c
namespace Go.Proofs.Ytpkcohhfkeinmaa
open Go.RowKit
set_option linter.unusedVariables false
set_option linter.unusedSimpArgs false

set_option maxRecDepth 100000 in
theorem tIn1_c (k : GTask) {w : World} {bx : Nat} {md : Int} (hx : w.heap[bx]? = some (.cells #[.int .i64 md] 3 (0, 0))) : Calls Try.prog 70 #[k.val, .pointer (some ⟨bx, 0, none⟩)] w fun e w' => e = .returned (.bool (delB md k)) ∧ Adds w w' := by
  have K : Keeps (fun _ => False) w w := Keeps.refl _ w
  refine Calls.start Try.func70 rfl (by kernel_rfl) ?_
  refine WC.seq ?_
  refine WC.region ?_
  refine WL.new (d := 2) (T := 44) (Value.cells (GTask.val k)) (k := fun b1 w2 g3 hb4 k5 => ?_)
  have z6 := Nat.le_trans K.size g3
  have n7 : bx ≠ b1 := Nat.ne_of_lt (Nat.lt_of_lt_of_le (lt_of_heap hx) g3)
  replace K := K.trans (k5.any _)
  refine WL.op (d := 3) (.bool false) (k := ?_)
  refine WL.nil ?_
  refine WX.seqN ?_
  refine WC.seq ?_
  refine WC.region ?_
  refine WL.load (v := .int .i64 md) (ld1 (T := 3) (i := 0) (K.heap hx id)) (k := ?_)
  refine WL.op (d := 5) (.bool (decide (md < 0))) (k := ?_)
  refine WL.op (d := 6) (.bool (decide (md < 0))) (k := ?_)
  refine bsplit (decide (md < 0)) (fun h8 => ?_) (fun h8 => ?_)
  · have ph8 := of_decide_eq_true h8
    refine WL.rw (t := 6) (v := .bool true) (congrArg Value.bool h8) (k := ?_)
    refine WL.skip (d := 7) (k := ?_)
    refine WL.skip (d := 8) (k := ?_)
    refine WL.op (d := 9) (.bool true) (k := ?_)
    refine WL.op (d := 10) (.bool true) (k := ?_)
    refine WL.skip (d := 11) (k := ?_)
    refine WL.skip (d := 12) (k := ?_)
    refine WL.skip (d := 13) (k := ?_)
    refine WL.skip (d := 14) (k := ?_)
    refine WL.skip (d := 15) (k := ?_)
    refine WL.skip (d := 16) (k := ?_)
    refine WL.op (d := 17) (.bool true) (k := ?_)
    refine WL.op (d := 3) (.bool true) (k := ?_)
    refine WL.nil ?_
    refine WX.seqN ?_
    refine WC.ret ?_
    refine WX.ret (rs := [.tmp 3]) [.bool true] (.bool true) ⟨(by kernel_rfl), trivial⟩ (k := ?_)
    exact ⟨ret_bool (by simp [delB, bitB, ph8, h8]), K⟩
  · have ph8 := of_decide_eq_false h8
    refine WL.rw (t := 6) (v := .bool false) (congrArg Value.bool h8) (k := ?_)
    refine WL.load (v := .int .i64 md) (ld1 (T := 3) (i := 0) (K.heap hx id)) (k := ?_)
    refine WL.op (d := 8) (.bool (decide (md ≥ 4))) (k := ?_)
    refine WL.op (d := 9) (.bool (decide (md ≥ 4))) (k := ?_)
    refine WL.op (d := 10) (.bool (decide (md ≥ 4))) (k := ?_)
    refine bsplit (decide (md ≥ 4)) (fun h9 => ?_) (fun h9 => ?_)
    · have ph9 := of_decide_eq_true h9
      refine WL.rw (t := 10) (v := .bool true) (congrArg Value.bool h9) (k := ?_)
      refine WL.skip (d := 11) (k := ?_)
      refine WL.skip (d := 12) (k := ?_)
      refine WL.skip (d := 13) (k := ?_)
      refine WL.skip (d := 14) (k := ?_)
      refine WL.skip (d := 15) (k := ?_)
      refine WL.skip (d := 16) (k := ?_)
      refine WL.op (d := 17) (.bool true) (k := ?_)
      refine WL.op (d := 3) (.bool true) (k := ?_)
      refine WL.nil ?_
      refine WX.seqN ?_
      refine WC.ret ?_
      refine WX.ret (rs := [.tmp 3]) [.bool true] (.bool true) ⟨(by kernel_rfl), trivial⟩ (k := ?_)
      exact ⟨ret_bool (by simp [delB, bitB, ph8, ph9, h8, h9]), K⟩
    · have ph9 := of_decide_eq_false h9
      refine WL.rw (t := 10) (v := .bool false) (congrArg Value.bool h9) (k := ?_)
      refine WL.op (d := 11) (.pointer (some ⟨b1, 4, none⟩)) (k := ?_)
      refine WL.load (v := .int .i64 k.m) (ld1 (T := 3) (i := 4) hb4) (k := ?_)
      refine WL.load (v := .int .i64 md) (ld1 (T := 3) (i := 0) (K.heap hx id)) (k := ?_)
      refine WL.bin (d := 14) (v := .int .i64 (k.m / 2 ^ md.toNat)) (shr_runV (k := .i64) (yk := .i64) (x := k.m) (y := md) (by omega) (by show _ ≤ 64; omega)) (k := ?_)
      refine WL.bin (d := 15) (v := .int .i64 (bits BinOp.and IntKind.i64 (k.m / 2 ^ md.toNat) 1)) (bits_run (by decide)) (k := ?_)
      refine WL.op (d := 16) (.bool ((bits BinOp.and IntKind.i64 (k.m / 2 ^ md.toNat) 1) == 0)) (k := ?_)
      refine WL.op (d := 17) (.bool ((bits BinOp.and IntKind.i64 (k.m / 2 ^ md.toNat) 1) == 0)) (k := ?_)
      refine WL.op (d := 3) (.bool ((bits BinOp.and IntKind.i64 (k.m / 2 ^ md.toNat) 1) == 0)) (k := ?_)
      refine WL.nil ?_
      refine WX.seqN ?_
      refine WC.ret ?_
      refine WX.ret (rs := [.tmp 3]) [.bool ((bits BinOp.and IntKind.i64 (k.m / 2 ^ md.toNat) 1) == 0)] (.bool ((bits BinOp.and IntKind.i64 (k.m / 2 ^ md.toNat) 1) == 0)) ⟨(by kernel_rfl), trivial⟩ (k := ?_)
      exact ⟨ret_bool (by simp [delB, bitB, ph8, ph9, h8, h9]), K⟩

set_option maxRecDepth 100000 in
theorem sIdxTask_c {A : Option Addr} {cp : Nat} {xs : List GTask} {w : World} (hA : SlAt taskC 5 44 A xs w) (hn : xs.length ≤ 1000000000) {bx : Nat} {md : Int} (hx : w.heap[bx]? = some (.cells #[.int .i64 md] 3 (0, 0))) : Calls Try.prog 89 #[.slice A xs.length cp, .func (.func 70) #[] #[.pointer (some ⟨bx, 0, none⟩)]] w fun e w' => ∃ j : Int, e = .returned (.int .i64 j) ∧ firstD md xs j ∧ Adds w w' := by
  have K : Keeps (fun _ => False) w w := Keeps.refl _ w
  refine Calls.start Try.func89 rfl (by kernel_rfl) ?_
  refine WC.seq ?_
  refine WC.region ?_
  refine WL.op (d := 4) (.int .i64 0) (k := ?_)
  refine WL.nil ?_
  refine WX.seqN ?_
  refine WC.seq ?_
  refine WC.seq ?_
  refine WC.region ?_
  refine WL.op (d := 6) (.slice A xs.length cp) (k := ?_)
  refine WL.op (d := 7) (.int .i64 (xs.length : Int)) (k := ?_)
  refine WL.op (d := 8) (.int .i64 0) (k := ?_)
  refine WL.nil ?_
  refine WX.seqN ?_
  refine WC.block ?_
  refine WC.loop (ι := Int) (fun (i : Int) => [(0, .slice A xs.length cp), (1, .func (.func 70) #[] #[.pointer (some ⟨bx, 0, none⟩)]), (6, .slice A xs.length cp), (7, .int .i64 (xs.length : Int)), (8, .int .i64 i)]) (fun (i : Int) (w_ : World) => (Keeps (fun _ => False) w w_) ∧ (0 ≤ i) ∧ (i ≤ xs.length) ∧ (noneD md xs i)) (fun (i : Int) => (xs.length - i).toNat) 0 ⟨(by kernel_rfl), (by kernel_rfl), (by kernel_rfl), (by kernel_rfl), (by kernel_rfl), trivial⟩ ⟨K, Int.le_refl 0, (by omega), noneD_zero _ _⟩ ?_
  rintro i w1 ⟨K, i0, i1, iu⟩
  refine WC.seq ?_
  refine WC.region ?_
  refine WL.op (d := 9) (.bool (decide (i < (xs.length : Int)))) (k := ?_)
  refine WL.nil ?_
  refine WX.seqN ?_
  refine WC.seq ?_
  refine WC.cond (b := decide (i < (xs.length : Int))) (ht := fun h2 => ?_) (hf := fun h2 => ?_)
  · have ph2 := of_decide_eq_true h2
    refine WC.skip ?_
    refine WX.seqN ?_
    refine WC.seq ?_
    refine WC.block ?_
    refine WC.seq ?_
    refine WC.region ?_
    refine WL.op (d := 10) (.int .i64 i) (k := ?_)
    refine WL.op (d := 5) (.int .i64 i) (k := ?_)
    refine WL.nil ?_
    refine WX.seqN ?_
    refine WC.seq ?_
    refine WC.region ?_
    refine WL.op (d := 11) (.func (.func 70) #[] #[.pointer (some ⟨bx, 0, none⟩)]) (k := ?_)
    refine WL.op (d := 12) (.slice A xs.length cp) (k := ?_)
    refine WL.op (d := 13) (.int .i64 i) (k := ?_)
    obtain ⟨b3, o4, r5, hr6, hA7, he8⟩ := SlAt.at hA (i := i) (by omega) (by omega)
    refine WL.rw (t := 12) (v := .slice (some ⟨b3, o4, none⟩) xs.length cp) (congrArg (fun a => Value.slice a xs.length cp) hA7) (k := ?_)
    refine WL.idx (T := 50) (E := 44) (m := 5) (b := b3) (o := o4) (len := xs.length) (cap := cp) (i := i) (kk := .i64) (d := 14) (by omega) (by omega) (k := ?_)
    refine WL.rw (t := 12) (v := .slice A xs.length cp) (congrArg (fun a => Value.slice a xs.length cp) (Eq.symm hA7)) (k := ?_)
    refine WL.load (v := GTask.val r5) ((he8.adds K).ldW (T := 44)) (k := ?_)
    refine WL.callG (d := 16) (f := 70) (args := #[GTask.val r5, .pointer (some ⟨bx, 0, none⟩)]) (tIn1_c r5 (K.heap hx id)) (k := fun e_ w9 h_ => ⟨.bool (delB md r5), h_.1, ?_⟩)
    have k10 := h_.2; clear h_
    replace K := K.trans (k10.any _)
    refine WL.nil ?_
    refine WX.seqN ?_
    refine WC.cond (b := delB md r5) (ht := fun h11 => ?_) (hf := fun h11 => ?_)
    · refine WC.seq ?_
      refine WC.region ?_
      refine WL.op (d := 17) (.int .i64 i) (k := ?_)
      refine WL.op (d := 4) (.int .i64 i) (k := ?_)
      refine WL.nil ?_
      refine WX.seqN ?_
      refine WC.ret ?_
      refine WX.blockR ?_
      refine WX.seqR ?_
      refine WX.seqR ?_
      refine WX.blockR ?_
      refine WX.seqR ?_
      refine WX.ret (rs := [.tmp 4]) [.int .i64 i] (.int .i64 i) ⟨(by kernel_rfl), trivial⟩ (k := ?_)
      exact ⟨i, rfl, first_at i0 iu hr6 h11, K⟩
    · refine WC.skip ?_
      refine WX.blockN ?_
      refine WX.seqN ?_
      refine WC.region ?_
      refine WL.opE (d := 18) (.int .i64 (IntKind.i64.wrap (i + 1))) (v := .int .i64 (i + 1)) (congrArg (Value.int .i64) (IntWalk.i64_in _ (by omega))) (k := ?_)
      refine WL.op (d := 8) (.int .i64 (i + 1)) (k := ?_)
      refine WL.nil ?_
      refine WX.round (i + 1) (by show (xs.length - (i + 1)).toNat < (xs.length - i).toNat; omega) ⟨(by kernel_rfl), (by kernel_rfl), (by kernel_rfl), (by kernel_rfl), (by kernel_rfl), trivial⟩ ⟨K, (by omega), (by omega), (noneD_succ i0 iu hr6 h11)⟩
  · have ph2 := of_decide_eq_false h2
    refine WC.exit ?_
    refine WX.seqE ?_
    refine WX.seqE ?_
    refine WX.blockE ?_
    refine WX.seqN ?_
    refine WC.seq ?_
    refine WC.region ?_
    refine WL.op (d := 4) (.int .i64 (-1)) (k := ?_)
    refine WL.nil ?_
    refine WX.seqN ?_
    refine WC.ret ?_
    refine WX.ret (rs := [.tmp 4]) [.int .i64 (-1)] (.int .i64 (-1)) ⟨(by kernel_rfl), trivial⟩ (k := ?_)
    exact ⟨-1, rfl, first_no (i := i) (by omega) iu, K⟩

set_option maxRecDepth 100000 in
theorem sDelTask_c {A : Option Addr} {cp : Nat} {xs : List GTask} {w : World} (hO : OwAt taskC 5 44 A cp xs w) (hn : xs.length ≤ 1000000000) {bx : Nat} {md : Int} (hx : w.heap[bx]? = some (.cells #[.int .i64 md] 3 (0, 0))) (hxo : ¬ blk A = some bx) : Calls Try.prog 69 #[.slice A xs.length cp, .func (.func 70) #[] #[.pointer (some ⟨bx, 0, none⟩)]] w fun e w' => e = .returned (.slice A (keepL md xs).length cp) ∧ OwAt taskC 5 44 A cp (keepL md xs) w' ∧ Keeps (fun k => blk A = some k) w w' := by
  have K : Keeps (fun k => blk A = some k) w w := Keeps.refl _ w
  refine Calls.start Try.func69 rfl (by kernel_rfl) ?_
  refine WC.seq ?_
  refine WC.region ?_
  refine WL.op (d := 4) (.slice none 0 0) (k := ?_)
  refine WL.nil ?_
  refine WX.seqN ?_
  refine WC.seq ?_
  refine WC.region ?_
  refine WL.op (d := 8) (.slice A xs.length cp) (k := ?_)
  refine WL.op (d := 9) (.func (.func 70) #[] #[.pointer (some ⟨bx, 0, none⟩)]) (k := ?_)
  refine WL.callG (d := 10) (f := 89) (args := #[.slice A xs.length cp, .func (.func 70) #[] #[.pointer (some ⟨bx, 0, none⟩)]]) (sIdxTask_c (cp := cp) (hO.sl ekTask) (by omega) hx) (k := fun e_ w1 h_ => ?_)
  obtain ⟨j2, rfl, hf3, k4⟩ := h_
  refine ⟨_, rfl, ?_⟩
  replace hO := hO.adds k4
  replace hx := k4.heap hx id
  replace K := K.trans (k4.any _)
  refine WL.op (d := 5) (.int .i64 j2) (k := ?_)
  refine WL.nil ?_
  refine WX.seqN ?_
  refine WC.seq ?_
  refine WC.seq ?_
  refine WC.region ?_
  refine WL.op (d := 11) (.int .i64 j2) (k := ?_)
  refine WL.op (d := 12) (.bool (j2 == (-1))) (k := ?_)
  refine WL.nil ?_
  refine WX.seqN ?_
  refine WC.cond (b := j2 == (-1)) (ht := fun h5 => ?_) (hf := fun h5 => ?_)
  · have ph5 := eq_of_beq h5
    refine WC.seq ?_
    refine WC.region ?_
    refine WL.op (d := 13) (.slice A xs.length cp) (k := ?_)
    refine WL.op (d := 4) (.slice A xs.length cp) (k := ?_)
    refine WL.nil ?_
    refine WX.seqN ?_
    refine WC.ret ?_
    refine WX.seqR ?_
    refine WX.ret (rs := [.tmp 4]) [.slice A xs.length cp] (.slice A xs.length cp) ⟨(by kernel_rfl), trivial⟩ (k := ?_)
    have e_ := first_keep hf3 ph5
    exact ⟨by rw [e_], by rw [e_]; exact hO, K⟩
  · have ph5 := ne_of_beq_false h5
    refine WC.skip ?_
    refine WX.seqN ?_
    refine WC.seq ?_
    refine WC.seq ?_
    have fr_ := first_rng hf3 ph5
    refine WC.region ?_
    refine WL.op (d := 14) (.int .i64 j2) (k := ?_)
    refine WL.opE (d := 15) (.int .i64 (IntKind.i64.wrap (j2 + 1))) (v := .int .i64 (j2 + 1)) (congrArg (Value.int .i64) (IntWalk.i64_in _ (by omega))) (k := ?_)
    refine WL.op (d := 6) (.int .i64 (j2 + 1)) (k := ?_)
    refine WL.nil ?_
    refine WX.seqN ?_
    refine WC.block ?_
    refine WC.loop (ι := Int × Int × (List GTask)) (fun (⟨i, j, zs⟩ : Int × Int × (List GTask)) => [(0, .slice A xs.length cp), (1, .func (.func 70) #[] #[.pointer (some ⟨bx, 0, none⟩)]), (4, .slice none 0 0), (8, .slice A xs.length cp), (9, .func (.func 70) #[] #[.pointer (some ⟨bx, 0, none⟩)]), (10, .int .i64 j2), (11, .int .i64 j2), (12, .bool (j2 == (-1))), (14, .int .i64 j2), (15, .int .i64 (j2 + 1)), (5, .int .i64 i), (6, .int .i64 j)]) (fun (⟨i, j, zs⟩ : Int × Int × (List GTask)) (w_ : World) => (Keeps (fun k => blk A = some k) w w_) ∧ (OwAt taskC 5 44 A cp zs w_) ∧ (w_.heap[bx]? = some (.cells #[.int .i64 md] 3 (0, 0))) ∧ (0 ≤ i) ∧ (i < j) ∧ (j ≤ xs.length) ∧ (zs.length = xs.length) ∧ (zs.drop j.toNat = xs.drop j.toNat) ∧ (zs.take i.toNat = keepL md (xs.take j.toNat))) (fun (⟨i, j, zs⟩ : Int × Int × (List GTask)) => (xs.length - j).toNat) (j2, j2 + 1, xs) ⟨(by kernel_rfl), (by kernel_rfl), (by kernel_rfl), (by kernel_rfl), (by kernel_rfl), (by kernel_rfl), (by kernel_rfl), (by kernel_rfl), (by kernel_rfl), (by kernel_rfl), (by kernel_rfl), (by kernel_rfl), trivial⟩ ⟨K, hO, hx, (by omega), (by omega), (by omega), rfl, rfl, (del_start hf3 ph5)⟩ ?_
    rintro ⟨i, j, zs⟩ w6 ⟨K, hb7, hb8, i0, ij, j1, hz, hd, ht⟩
    refine WC.seq ?_
    refine WC.seq ?_
    refine WC.region ?_
    refine WL.op (d := 16) (.int .i64 j) (k := ?_)
    refine WL.op (d := 17) (.slice A xs.length cp) (k := ?_)
    refine WL.op (d := 18) (.int .i64 (xs.length : Int)) (k := ?_)
    refine WL.op (d := 19) (.bool (decide (j < (xs.length : Int)))) (k := ?_)
    refine WL.nil ?_
    refine WX.seqN ?_
    refine WC.cond (b := decide (j < (xs.length : Int))) (ht := fun h9 => ?_) (hf := fun h9 => ?_)
    · have ph9 := of_decide_eq_true h9
      refine WC.skip ?_
      refine WX.seqN ?_
      refine WC.seq ?_
      refine WC.block ?_
      refine WC.seq ?_
      refine WC.region ?_
      refine WL.op (d := 22) (.slice A xs.length cp) (k := ?_)
      refine WL.op (d := 23) (.int .i64 j) (k := ?_)
      obtain ⟨b10, o11, r12, hr13, hA14, he15⟩ := SlAt.at (hb7.sl ekTask) (i := j) (by omega) (by omega)
      refine WL.rw (t := 22) (v := .slice (some ⟨b10, o11, none⟩) xs.length cp) (congrArg (fun a => Value.slice a xs.length cp) hA14) (k := ?_)
      refine WL.idx (T := 50) (E := 44) (m := 5) (b := b10) (o := o11) (len := xs.length) (cap := cp) (i := j) (kk := .i64) (d := 24) (by omega) (by omega) (k := ?_)
      refine WL.rw (t := 22) (v := .slice A xs.length cp) (congrArg (fun a => Value.slice a xs.length cp) (Eq.symm hA14)) (k := ?_)
      refine WL.load (v := GTask.val r12) (he15.ldW (T := 44)) (k := ?_)
      refine WL.new (d := 7) (T := 44) #[.int .i64 0, .int .i64 0, .int .i64 0, .int .i64 0, .int .i64 0] (k := fun b16 w17 g18 hb19 k20 => ?_)
      have z21 := Nat.le_trans K.size g18
      have n22 := OwAt.off_new hb7 g18
      have n23 : bx ≠ b16 := Nat.ne_of_lt (Nat.lt_of_lt_of_le (lt_of_heap hb8) g18)
      replace hb7 := hb7.adds k20
      replace hb8 := k20.heap hb8 id
      replace he15 := he15.adds k20
      replace K := K.trans (k20.any _)
      refine WL.store (v := GTask.val r12) (i := 0) (cs' := (Value.cells (GTask.val r12))) hb19 (k := fun w24 hb25 k26 => ?_)
      replace hb7 := hb7.keeps k26 (fun i hi e => (n22) (e ▸ hi))
      replace hb8 := k26.heap hb8 n23
      replace K := K.trans' k26 (fun i hi e => absurd (e ▸ hi) (Nat.not_lt.2 z21))
      clear hb19
      refine WL.nil ?_
      refine WX.seqN ?_
      refine WC.seq ?_
      refine WC.region ?_
      refine WL.op (d := 26) (.func (.func 70) #[] #[.pointer (some ⟨bx, 0, none⟩)]) (k := ?_)
      refine WL.load (v := GTask.val r12) (ldN (T := 44) (i := 0) (m := 5) (l := (Value.cells (GTask.val r12)).toList) hb25) (k := ?_)
      refine WL.callG (d := 28) (f := 70) (args := #[GTask.val r12, .pointer (some ⟨bx, 0, none⟩)]) (tIn1_c r12 hb8) (k := fun e_ w27 h_ => ⟨.bool (delB md r12), h_.1, ?_⟩)
      have k28 := h_.2; clear h_
      replace hb7 := hb7.adds k28
      replace hb8 := k28.heap hb8 id
      replace hb25 := k28.heap hb25 id
      replace K := K.trans (k28.any _)
      refine WL.op (d := 29) (.bool (!(delB md r12))) (k := ?_)
      refine WL.nil ?_
      refine WX.seqN ?_
      refine WC.cond (b := !(delB md r12)) (ht := fun h29 => ?_) (hf := fun h29 => ?_)
      · have h30 : (delB md r12) = false := by simpa using h29
        refine WC.seq ?_
        refine WC.region ?_
        refine WL.op (d := 30) (.slice A xs.length cp) (k := ?_)
        refine WL.op (d := 31) (.int .i64 i) (k := ?_)
        refine WL.load (v := GTask.val r12) (ldN (T := 44) (i := 0) (m := 5) (l := (Value.cells (GTask.val r12)).toList) hb25) (k := ?_)
        obtain ⟨b31, o32, r33, hr34, hA35, he36⟩ := SlAt.at (hb7.sl ekTask) (i := i) (by omega) (by omega)
        refine WL.rw (t := 30) (v := .slice (some ⟨b31, o32, none⟩) xs.length cp) (congrArg (fun a => Value.slice a xs.length cp) hA35) (k := ?_)
        refine WL.idx (T := 50) (E := 44) (m := 5) (b := b31) (o := o32) (len := xs.length) (cap := cp) (i := i) (kk := .i64) (d := 33) (by omega) (by omega) (k := ?_)
        refine WL.rw (t := 30) (v := .slice A xs.length cp) (congrArg (fun a => Value.slice a xs.length cp) (Eq.symm hA35)) (k := ?_)
        obtain ⟨w37, hs38, ho39, k40⟩ := OwAt.set (T := 44) ekTask hb7 hA35 (i := i) (by omega) (by omega) r12 (by kernel_rfl)
        refine WL.wr (v := GTask.val r12) hs38 (k := ?_)
        clear hs38
        replace hb8 := k40.heap hb8 hxo
        replace hb25 := k40.heap hb25 n22
        replace K := K.trans' k40 (fun i hi e => e)
        clear hb7
        refine WL.nil ?_
        refine WX.seqN ?_
        refine WC.region ?_
        refine WL.op (d := 34) (.int .i64 i) (k := ?_)
        refine WL.opE (d := 35) (.int .i64 (IntKind.i64.wrap (i + 1))) (v := .int .i64 (i + 1)) (congrArg (Value.int .i64) (IntWalk.i64_in _ (by omega))) (k := ?_)
        refine WL.op (d := 5) (.int .i64 (i + 1)) (k := ?_)
        refine WL.nil ?_
        refine WX.blockN ?_
        refine WX.seqN ?_
        refine WC.region ?_
        refine WL.op (d := 20) (.int .i64 j) (k := ?_)
        refine WL.opE (d := 21) (.int .i64 (IntKind.i64.wrap (j + 1))) (v := .int .i64 (j + 1)) (congrArg (Value.int .i64) (IntWalk.i64_in _ (by omega))) (k := ?_)
        refine WL.op (d := 6) (.int .i64 (j + 1)) (k := ?_)
        refine WL.nil ?_
        refine WX.round (i + 1, j + 1, List.set zs (i).toNat r12) (by show (xs.length - (j + 1)).toNat < (xs.length - j).toNat; omega) ⟨(by kernel_rfl), (by kernel_rfl), (by kernel_rfl), (by kernel_rfl), (by kernel_rfl), (by kernel_rfl), (by kernel_rfl), (by kernel_rfl), (by kernel_rfl), (by kernel_rfl), (by kernel_rfl), (by kernel_rfl), trivial⟩ ⟨K, ho39, hb8, (by omega), (by omega), (by omega), (by rw [List.length_set]; exact hz), (del_keepd i0 ij hd), (del_keep i0 ij hd hr13 h30 ht)⟩
      · have h41 : (delB md r12) = true := by simpa using h29
        refine WC.skip ?_
        refine WX.blockN ?_
        refine WX.seqN ?_
        refine WC.region ?_
        refine WL.op (d := 20) (.int .i64 j) (k := ?_)
        refine WL.opE (d := 21) (.int .i64 (IntKind.i64.wrap (j + 1))) (v := .int .i64 (j + 1)) (congrArg (Value.int .i64) (IntWalk.i64_in _ (by omega))) (k := ?_)
        refine WL.op (d := 6) (.int .i64 (j + 1)) (k := ?_)
        refine WL.nil ?_
        refine WX.round (i, j + 1, zs) (by show (xs.length - (j + 1)).toNat < (xs.length - j).toNat; omega) ⟨(by kernel_rfl), (by kernel_rfl), (by kernel_rfl), (by kernel_rfl), (by kernel_rfl), (by kernel_rfl), (by kernel_rfl), (by kernel_rfl), (by kernel_rfl), (by kernel_rfl), (by kernel_rfl), (by kernel_rfl), trivial⟩ ⟨K, hb7, hb8, (by omega), (by omega), (by omega), hz, (drop_succ (by omega) hd), (del_drop (by omega) hd hr13 h41 ht)⟩
    · have ph9 := of_decide_eq_false h9
      refine WC.exit ?_
      refine WX.seqE ?_
      refine WX.seqE ?_
      refine WX.blockE ?_
      refine WX.seqN ?_
      refine WC.seq ?_
      refine WC.region ?_
      refine WL.op (d := 36) (.slice A xs.length cp) (k := ?_)
      refine WL.op (d := 37) (.int .i64 i) (k := ?_)
      have cc_ := SlAt.cell hb7
      refine WL.cut (d := 38) (vx := .slice A xs.length cp) (lo' := some (.int .i64 i)) (hi' := none) (mx' := none) (v := .slice (cutA A cp i.toNat 5) (zs.length - i.toNat) (cp - i.toNat)) (run_cutSl (a := i.toNat) (b := xs.length) (c := cp) (m := 5) (E := 44) (by kernel_rfl) (by kernel_rfl) (.inl ⟨rfl, rfl⟩) (.inl ⟨rfl, rfl, rfl⟩) (.inr ⟨_, _, rfl, by omega⟩) (by omega) (by omega) rfl (by omega) rfl) (k := ?_)
      obtain ⟨w42, hc43, ho44, k45⟩ := OwAt.clear (T := 50) (ty := 0) ekTask (by kernel_rfl) hb7 (i := i.toNat) (by omega) (z := .agg #[.int .i64 0, .int .i64 0, .int .i64 0, .int .i64 0, .int .i64 0]) (by kernel_rfl) (by kernel_rfl) rfl
      refine WL.clear hc43 (k := ?_)
      clear hc43
      replace hb8 := k45.heap hb8 hxo
      replace K := K.trans' k45 (fun i hi e => e)
      clear hb7
      refine WL.nil ?_
      refine WX.seqN ?_
      refine WC.seq ?_
      refine WC.region ?_
      refine WL.op (d := 39) (.slice A xs.length cp) (k := ?_)
      refine WL.op (d := 40) (.int .i64 i) (k := ?_)
      refine WL.cut (d := 41) (vx := .slice A xs.length cp) (lo' := none) (hi' := some (.int .i64 i)) (mx' := none) (v := .slice A ((List.take i.toNat zs).length) cp) (run_cutSl (a := 0) (b := i.toNat) (c := cp) (m := 5) (E := 44) (by kernel_rfl) (by kernel_rfl) (.inl ⟨rfl, rfl⟩) (.inr ⟨_, _, rfl, by omega⟩) (.inl ⟨rfl, rfl⟩) (by omega) (by omega) (cutA_zero _ _ _) (by simp; omega) (by omega)) (k := ?_)
      refine WL.op (d := 4) (.slice A ((List.take i.toNat zs).length) cp) (k := ?_)
      refine WL.nil ?_
      refine WX.seqN ?_
      refine WC.ret ?_
      refine WX.ret (rs := [.tmp 4]) [.slice A ((List.take i.toNat zs).length) cp] (.slice A ((List.take i.toNat zs).length) cp) ⟨(by kernel_rfl), trivial⟩ (k := ?_)
      have e_ := del_end (by omega) ht
      rw [e_] at ho44 ⊢
      exact ⟨rfl, ho44, K⟩

set_option maxRecDepth 100000 in
theorem tIn_c {A : Option Addr} {cp : Nat} {rows : List GRow} {tm md : Int} {w : World} (hA : SlAt rowC 6 53 A rows w) (hn : rows.length ≤ 1000000000) : Calls Try.prog 29 #[.agg #[.slice A rows.length cp, .int .i64 tm], .int .i64 md] w fun e w' => ∃ A' c', e = .returned (.slice A' (keepL md (rows.map GRow.task)).length c') ∧ OwAt taskC 5 44 A' c' (keepL md (rows.map GRow.task)) w' ∧ Adds w w' ∧ (∀ i, blk A' = some i → w.heap.size ≤ i) := by
  have K : Keeps (fun _ => False) w w := Keeps.refl _ w
  refine Calls.start Try.func29 rfl (by kernel_rfl) ?_
  refine WC.seq ?_
  refine WC.region ?_
  refine WL.new (d := 2) (T := 24) #[.slice A rows.length cp, .int .i64 tm] (k := fun b1 w2 g3 hb4 k5 => ?_)
  have z6 := Nat.le_trans K.size g3
  replace K := K.trans (k5.any _)
  refine WL.new (d := 3) (T := 3) #[.int .i64 md] (k := fun b7 w8 g9 hb10 k11 => ?_)
  have z12 := Nat.le_trans K.size g9
  have n13 : b1 ≠ b7 := Nat.ne_of_lt (Nat.lt_of_lt_of_le (lt_of_heap hb4) g9)
  replace hb4 := k11.heap hb4 id
  replace K := K.trans (k11.any _)
  refine WL.op (d := 4) (.slice none 0 0) (k := ?_)
  refine WL.nil ?_
  refine WX.seqN ?_
  refine WC.seq ?_
  refine WC.region ?_
  refine WL.load (v := .agg #[.slice A rows.length cp, .int .i64 tm]) (ldN (T := 24) (i := 0) (m := 2) (l := [.slice A rows.length cp, .int .i64 tm]) hb4) (k := ?_)
  refine WL.callG (d := 6) (f := 51) (args := #[.agg #[.slice A rows.length cp, .int .i64 tm]]) (tTasks_c (cp := cp) (md := tm) (hA.adds K) (by omega)) (k := fun e_ w14 h_ => ?_)
  obtain ⟨A15, c16, rfl, ho17, k18, ol19⟩ := h_
  refine ⟨_, rfl, ?_⟩
  have ol20 := fun i h => Nat.le_trans K.size (ol19 i h)
  replace hb4 := k18.heap hb4 id
  replace hb10 := k18.heap hb10 id
  replace K := K.trans (k18.any _)
  clear ol19
  refine WL.op (d := 7) (.func (.func 70) #[] #[.pointer (some ⟨b7, 0, none⟩)]) (k := ?_)
  refine WL.callG (d := 8) (f := 69) (args := #[.slice A15 ((List.map GRow.task rows).length) c16, .func (.func 70) #[] #[.pointer (some ⟨b7, 0, none⟩)]]) (sDelTask_c (md := md) ho17 (by first | omega | (simp; omega)) hb10 (OwAt.offT ho17 hb10 (by decide))) (k := fun e_ w21 h_ => ?_)
  obtain ⟨rfl, ho22, k23⟩ := h_
  refine ⟨_, rfl, ?_⟩
  replace hb4 := k23.heap hb4 (ho17.offT hb4 (by decide))
  replace hb10 := k23.heap hb10 (ho17.offT hb10 (by decide))
  replace K := K.trans' k23 (fun i hi e => absurd hi (Nat.not_lt.2 (ol20 i e)))
  clear ho17
  refine WL.op (d := 4) (.slice A15 ((keepL md (List.map GRow.task rows)).length) c16) (k := ?_)
  refine WL.nil ?_
  refine WX.seqN ?_
  refine WC.ret ?_
  refine WX.ret (rs := [.tmp 4]) [.slice A15 ((keepL md (List.map GRow.task rows)).length) c16] (.slice A15 ((keepL md (List.map GRow.task rows)).length) c16) ⟨(by kernel_rfl), trivial⟩ (k := ?_)
  exact ⟨_, _, rfl, ho22, K, ol20⟩

set_option maxRecDepth 100000 in
theorem u14In_c {A : Option Addr} {cp : Nat} {rows : List GRow} {tm md : Int} {w : World} (hA : SlAt rowC 6 53 A rows w) (hn : rows.length ≤ 1000000000) : Calls Try.prog 53 #[.agg #[.slice A rows.length cp, .int .i64 tm], .int .i64 md] w fun e w' => ∃ A' c', e = .returned (.slice A' (keepL md (rows.map GRow.task)).length c') ∧ OwAt taskC 5 44 A' c' (keepL md (rows.map GRow.task)) w' ∧ Adds w w' ∧ (∀ i, blk A' = some i → w.heap.size ≤ i) := by
  have K : Keeps (fun _ => False) w w := Keeps.refl _ w
  refine Calls.start Try.func53 rfl (by kernel_rfl) ?_
  refine WC.seq ?_
  refine WC.region ?_
  refine WL.new (d := 2) (T := 24) #[.slice A rows.length cp, .int .i64 tm] (k := fun b1 w2 g3 hb4 k5 => ?_)
  have z6 := Nat.le_trans K.size g3
  replace K := K.trans (k5.any _)
  refine WL.op (d := 4) (.slice none 0 0) (k := ?_)
  refine WL.nil ?_
  refine WX.seqN ?_
  refine WC.seq ?_
  refine WC.region ?_
  refine WL.op (d := 5) (.slice none 0 0) (k := ?_)
  refine WL.nil ?_
  refine WX.seqN ?_
  refine WC.seq ?_
  refine WC.seq ?_
  refine WC.region ?_
  refine WL.op (d := 6) (.int .i64 0) (k := ?_)
  refine WL.nil ?_
  refine WX.seqN ?_
  refine WC.block ?_
  refine WC.loop (ι := Int × (Option Addr) × Nat) (fun (⟨i, Ao, co⟩ : Int × (Option Addr) × Nat) => [(0, .agg #[.slice A rows.length cp, .int .i64 tm]), (1, .int .i64 md), (2, .pointer (some ⟨b1, 0, none⟩)), (4, .slice none 0 0), (6, .int .i64 i), (5, .slice Ao ((inU md rows i).length) co)]) (fun (⟨i, Ao, co⟩ : Int × (Option Addr) × Nat) (w_ : World) => (Keeps (fun _ => False) w w_) ∧ (w_.heap[b1]? = some (.cells #[.slice A rows.length cp, .int .i64 tm] 24 (0, 0))) ∧ (OwAt taskC 5 44 Ao co (inU md rows i) w_) ∧ (∀ i, blk Ao = some i → w.heap.size ≤ i) ∧ (0 ≤ i) ∧ (i ≤ rows.length)) (fun (⟨i, Ao, co⟩ : Int × (Option Addr) × Nat) => (rows.length - i).toNat) (0, none, 0) ⟨(by kernel_rfl), (by kernel_rfl), (by kernel_rfl), (by kernel_rfl), (by kernel_rfl), (by kernel_rfl), trivial⟩ ⟨K, hb4, OwAt.nil, (by simp [blk]), Int.le_refl 0, (by omega)⟩ ?_
  rintro ⟨i, Ao, co⟩ w7 ⟨K, hb8, hb9, ol10, i0, i1⟩
  have il_ := inU_len (md := md) (i := i) rows
  refine WC.seq ?_
  refine WC.seq ?_
  refine WC.region ?_
  refine WL.op (d := 7) (.int .i64 i) (k := ?_)
  refine WL.op (d := 8) (.pointer (some ⟨b1, 0, none⟩)) (k := ?_)
  refine WL.load (v := .slice A rows.length cp) (ld1 (T := 22) (i := 0) hb8) (k := ?_)
  refine WL.op (d := 10) (.int .i64 (rows.length : Int)) (k := ?_)
  refine WL.op (d := 11) (.bool (decide (i < (rows.length : Int)))) (k := ?_)
  refine WL.op (d := 12) (.bool (decide (i < (rows.length : Int)))) (k := ?_)
  refine bsplit (decide (i < (rows.length : Int))) (fun h11 => ?_) (fun h11 => ?_)
  · have ph11 := of_decide_eq_true h11
    refine WL.rw (t := 12) (v := .bool true) (congrArg Value.bool h11) (k := ?_)
    refine WL.op (d := 13) (.int .i64 md) (k := ?_)
    refine WL.op (d := 14) (.bool (decide (md ≥ 0))) (k := ?_)
    refine WL.op (d := 15) (.bool (decide (md ≥ 0))) (k := ?_)
    refine WL.op (d := 16) (.bool (decide (md ≥ 0))) (k := ?_)
    refine bsplit (decide (md ≥ 0)) (fun h12 => ?_) (fun h12 => ?_)
    · have ph12 := of_decide_eq_true h12
      refine WL.rw (t := 16) (v := .bool true) (congrArg Value.bool h12) (k := ?_)
      refine WL.op (d := 17) (.int .i64 md) (k := ?_)
      refine WL.op (d := 18) (.bool (decide (md ≤ 3))) (k := ?_)
      refine WL.op (d := 19) (.bool (decide (md ≤ 3))) (k := ?_)
      refine WL.nil ?_
      refine WX.seqN ?_
      refine WC.cond (b := decide (md ≤ 3)) (ht := fun h13 => ?_) (hf := fun h13 => ?_)
      · have ph13 := of_decide_eq_true h13
        refine WC.skip ?_
        refine WX.seqN ?_
        refine WC.seq ?_
        refine WC.block ?_
        refine WC.seq ?_
        refine WC.region ?_
        refine WL.op (d := 22) (.pointer (some ⟨b1, 0, none⟩)) (k := ?_)
        refine WL.load (v := .slice A rows.length cp) (ld1 (T := 22) (i := 0) hb8) (k := ?_)
        refine WL.op (d := 24) (.int .i64 i) (k := ?_)
        obtain ⟨b14, o15, r16, hr17, hA18, he19⟩ := SlAt.at hA (i := i) (by omega) (by omega)
        refine WL.rw (t := 23) (v := .slice (some ⟨b14, o15, none⟩) rows.length cp) (congrArg (fun a => Value.slice a rows.length cp) hA18) (k := ?_)
        refine WL.idx (T := 22) (E := 53) (m := 6) (b := b14) (o := o15) (len := rows.length) (cap := cp) (i := i) (kk := .i64) (d := 25) (by omega) (by omega) (k := ?_)
        refine WL.rw (t := 23) (v := .slice A rows.length cp) (congrArg (fun a => Value.slice a rows.length cp) (Eq.symm hA18)) (k := ?_)
        refine WL.op (d := 26) (.pointer (some ⟨b14, o15 + (i).toNat * 6, none⟩)) (k := ?_)
        refine WL.op (d := 27) (.pointer (some ⟨b14, o15 + (i).toNat * 6 + 4, none⟩)) (k := ?_)
        refine WL.load (v := .int .i64 r16.task.m) ((he19.adds K).ldF (T := 3) (off := 4)) (k := ?_)
        refine WL.op (d := 29) (.int .i64 md) (k := ?_)
        refine WL.opE (d := 30) (.int .u64 (IntKind.u64.wrap md)) (v := .int .u64 md) (congrArg (Value.int .u64) (IntWalk.u64_in _ (by omega))) (k := ?_)
        refine WL.bin (d := 31) (v := .int .i64 (r16.task.m / 2 ^ md.toNat)) (shr_runV (k := .i64) (yk := .u64) (x := r16.task.m) (y := md) (by omega) (by show _ ≤ 64; omega)) (k := ?_)
        refine WL.bin (d := 32) (v := .int .i64 (bits BinOp.and IntKind.i64 (r16.task.m / 2 ^ md.toNat) 1)) (bits_run (by decide)) (k := ?_)
        refine WL.op (d := 33) (.bool ((bits BinOp.and IntKind.i64 (r16.task.m / 2 ^ md.toNat) 1) == 1)) (k := ?_)
        refine WL.nil ?_
        refine WX.seqN ?_
        refine WC.cond (b := (bits BinOp.and IntKind.i64 (r16.task.m / 2 ^ md.toNat) 1) == 1) (ht := fun h20 => ?_) (hf := fun h20 => ?_)
        · have ph20 := eq_of_beq h20
          refine WC.region ?_
          refine WL.op (d := 34) (.slice Ao ((inU md rows i).length) co) (k := ?_)
          refine WL.op (d := 35) (.pointer (some ⟨b1, 0, none⟩)) (k := ?_)
          refine WL.load (v := .slice A rows.length cp) (ld1 (T := 22) (i := 0) hb8) (k := ?_)
          refine WL.op (d := 37) (.int .i64 i) (k := ?_)
          obtain ⟨b21, o22, r23, hr24, hA25, he26⟩ := SlAt.at hA (i := i) (by omega) (by omega)
          refine WL.rw (t := 36) (v := .slice (some ⟨b21, o22, none⟩) rows.length cp) (congrArg (fun a => Value.slice a rows.length cp) hA25) (k := ?_)
          refine WL.idx (T := 22) (E := 53) (m := 6) (b := b21) (o := o22) (len := rows.length) (cap := cp) (i := i) (kk := .i64) (d := 38) (by omega) (by omega) (k := ?_)
          refine WL.rw (t := 36) (v := .slice A rows.length cp) (congrArg (fun a => Value.slice a rows.length cp) (Eq.symm hA25)) (k := ?_)
          refine WL.op (d := 39) (.pointer (some ⟨b21, o22 + (i).toNat * 6, none⟩)) (k := ?_)
          refine WL.load (v := GTask.val r23.task) ((he26.adds K).ldA0 (T := 44) (k := 5) (l := (Value.cells (GTask.val r23.task)).toList)) (k := ?_)
          refine WL.newF (d := 41) (T := 44) (Value.cells (GTask.val r23.task)) (fun b => .slice (some ⟨b, 0, none⟩) 1 1) (k := fun b27 w28 g29 hb30 k31 => ?_)
          have z32 := Nat.le_trans K.size g29
          have n33 : b1 ≠ b27 := Nat.ne_of_lt (Nat.lt_of_lt_of_le (lt_of_heap hb8) g29)
          replace hb8 := k31.heap hb8 id
          replace hb9 := hb9.adds k31
          replace K := K.trans (k31.any _)
          refine WL.append (d := 42) (T := 50) (cl := taskC) (xs := inU md rows i) (ys := [r23.task]) (c := 1) ekTask hb9 (SlAt.of_lit (ys := [r23.task]) ekTask hb30 (by kernel_rfl)) (by simp; omega) (k := fun A34 c35 w36 ho37 k38 n39 => ?_)
          have ol40 := olink_step ol10 K n39
          replace hb8 := k38.heap hb8 (hb9.offT hb8 (by decide))
          replace K := K.trans' k38 (fun i hi e => absurd hi (Nat.not_lt.2 (ol10 i e)))
          clear hb9
          refine WL.op (d := 5) (.slice A34 ((inU md rows i ++ [r23.task]).length) c35) (k := ?_)
          refine WL.nil ?_
          refine WX.blockN ?_
          refine WX.seqN ?_
          refine WC.region ?_
          refine WL.op (d := 20) (.int .i64 i) (k := ?_)
          refine WL.opE (d := 21) (.int .i64 (IntKind.i64.wrap (i + 1))) (v := .int .i64 (i + 1)) (congrArg (Value.int .i64) (IntWalk.i64_in _ (by omega))) (k := ?_)
          refine WL.op (d := 6) (.int .i64 (i + 1)) (k := ?_)
          refine WL.nil ?_
          obtain rfl : r23 = r16 := Option.some.inj (hr24.symm.trans hr17)
          have e41 : inU md rows i ++ [r23.task] = inU md rows (i + 1) := inU_yes i0 hr17 ph12 ph13 ph20
          rw [e41] at ho37
          refine WX.rw (t := 5) (v := .slice A34 ((inU md rows (i + 1)).length) c35) (congrArg (fun l => Value.slice A34 (List.length l) c35) e41) (k := ?_)
          refine WX.round (i + 1, A34, c35) (by show (rows.length - (i + 1)).toNat < (rows.length - i).toNat; omega) ⟨(by kernel_rfl), (by kernel_rfl), (by kernel_rfl), (by kernel_rfl), (by kernel_rfl), (by kernel_rfl), trivial⟩ ⟨K, hb8, ho37, ol40, (by omega), (by omega)⟩
        · have ph20 := ne_of_beq_false h20
          refine WC.skip ?_
          refine WX.blockN ?_
          refine WX.seqN ?_
          refine WC.region ?_
          refine WL.op (d := 20) (.int .i64 i) (k := ?_)
          refine WL.opE (d := 21) (.int .i64 (IntKind.i64.wrap (i + 1))) (v := .int .i64 (i + 1)) (congrArg (Value.int .i64) (IntWalk.i64_in _ (by omega))) (k := ?_)
          refine WL.op (d := 6) (.int .i64 (i + 1)) (k := ?_)
          refine WL.nil ?_
          have e42 : inU md rows i = inU md rows (i + 1) := inU_no i0 hr17 ph12 ph13 ph20
          rw [e42] at hb9
          refine WX.rw (t := 5) (v := .slice Ao ((inU md rows (i + 1)).length) co) (congrArg (fun l => Value.slice Ao (List.length l) co) e42) (k := ?_)
          refine WX.round (i + 1, Ao, co) (by show (rows.length - (i + 1)).toNat < (rows.length - i).toNat; omega) ⟨(by kernel_rfl), (by kernel_rfl), (by kernel_rfl), (by kernel_rfl), (by kernel_rfl), (by kernel_rfl), trivial⟩ ⟨K, hb8, hb9, ol10, (by omega), (by omega)⟩
      · have ph13 := of_decide_eq_false h13
        refine WC.exit ?_
        refine WX.seqE ?_
        refine WX.seqE ?_
        refine WX.blockE ?_
        refine WX.seqN ?_
        refine WC.seq ?_
        refine WC.region ?_
        refine WL.op (d := 43) (.slice Ao ((inU md rows i).length) co) (k := ?_)
        refine WL.op (d := 4) (.slice Ao ((inU md rows i).length) co) (k := ?_)
        refine WL.nil ?_
        refine WX.seqN ?_
        refine WC.ret ?_
        refine WX.ret (rs := [.tmp 4]) [.slice Ao ((inU md rows i).length) co] (.slice Ao ((inU md rows i).length) co) ⟨(by kernel_rfl), trivial⟩ (k := ?_)
        have e_ := inU_end (md := md) (rows := rows) (i := i) rfl i0 (by omega)
        rw [e_] at hb9 ⊢
        exact ⟨_, _, rfl, hb9, K, ol10⟩
    · have ph12 := of_decide_eq_false h12
      refine WL.rw (t := 16) (v := .bool false) (congrArg Value.bool h12) (k := ?_)
      refine WL.skip (d := 17) (k := ?_)
      refine WL.skip (d := 18) (k := ?_)
      refine WL.op (d := 19) (.bool false) (k := ?_)
      refine WL.nil ?_
      refine WX.seqN ?_
      refine WC.condF (k := ?_)
      refine WC.exit ?_
      refine WX.seqE ?_
      refine WX.seqE ?_
      refine WX.blockE ?_
      refine WX.seqN ?_
      refine WC.seq ?_
      refine WC.region ?_
      refine WL.op (d := 43) (.slice Ao ((inU md rows i).length) co) (k := ?_)
      refine WL.op (d := 4) (.slice Ao ((inU md rows i).length) co) (k := ?_)
      refine WL.nil ?_
      refine WX.seqN ?_
      refine WC.ret ?_
      refine WX.ret (rs := [.tmp 4]) [.slice Ao ((inU md rows i).length) co] (.slice Ao ((inU md rows i).length) co) ⟨(by kernel_rfl), trivial⟩ (k := ?_)
      have e_ := inU_end (md := md) (rows := rows) (i := i) rfl i0 (by omega)
      rw [e_] at hb9 ⊢
      exact ⟨_, _, rfl, hb9, K, ol10⟩
  · have ph11 := of_decide_eq_false h11
    refine WL.rw (t := 12) (v := .bool false) (congrArg Value.bool h11) (k := ?_)
    refine WL.skip (d := 13) (k := ?_)
    refine WL.skip (d := 14) (k := ?_)
    refine WL.op (d := 15) (.bool false) (k := ?_)
    refine WL.op (d := 16) (.bool false) (k := ?_)
    refine WL.skip (d := 17) (k := ?_)
    refine WL.skip (d := 18) (k := ?_)
    refine WL.op (d := 19) (.bool false) (k := ?_)
    refine WL.nil ?_
    refine WX.seqN ?_
    refine WC.condF (k := ?_)
    refine WC.exit ?_
    refine WX.seqE ?_
    refine WX.seqE ?_
    refine WX.blockE ?_
    refine WX.seqN ?_
    refine WC.seq ?_
    refine WC.region ?_
    refine WL.op (d := 43) (.slice Ao ((inU md rows i).length) co) (k := ?_)
    refine WL.op (d := 4) (.slice Ao ((inU md rows i).length) co) (k := ?_)
    refine WL.nil ?_
    refine WX.seqN ?_
    refine WC.ret ?_
    refine WX.ret (rs := [.tmp 4]) [.slice Ao ((inU md rows i).length) co] (.slice Ao ((inU md rows i).length) co) ⟨(by kernel_rfl), trivial⟩ (k := ?_)
    have e_ := inU_end (md := md) (rows := rows) (i := i) rfl i0 (by omega)
    rw [e_] at hb9 ⊢
    exact ⟨_, _, rfl, hb9, K, ol10⟩

end Go.Proofs.Ytpkcohhfkeinmaa
