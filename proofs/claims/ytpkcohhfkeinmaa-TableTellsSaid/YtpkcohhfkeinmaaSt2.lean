/- Tables: places of numbers. -/
import Derived.Test.YtpkcohhfkeinmaaSt1
namespace Go.Proofs.Ytpkcohhfkeinmaa
open Go.RowKit
set_option linter.unusedVariables false
set_option linter.unusedSimpArgs false

set_option maxRecDepth 100000 in
theorem cmpNaN_c (x : Int) (w : World) : Calls Try.prog 98 #[.int .i64 x] w fun e w' => e = .returned (.bool false) ∧ w' = w := by
  have K : Keeps (fun _ => False) w w := Keeps.refl _ w
  refine Calls.start Try.func98 rfl (by kernel_rfl) ?_
  refine WC.seq ?_
  refine WC.region ?_
  refine WL.op (d := 2) (.bool false) (k := ?_)
  refine WL.nil ?_
  refine WX.seqN ?_
  refine WC.seq ?_
  refine WC.region ?_
  refine WL.op (d := 3) (.int .i64 x) (k := ?_)
  refine WL.op (d := 4) (.int .i64 x) (k := ?_)
  refine WL.opE (d := 5) (.bool (x != x)) (v := .bool false) (congrArg Value.bool (bne_self_eq_false _)) (k := ?_)
  refine WL.op (d := 2) (.bool false) (k := ?_)
  refine WL.nil ?_
  refine WX.seqN ?_
  refine WC.ret ?_
  refine WX.ret (rs := [.tmp 2]) [.bool false] (.bool false) ⟨(by kernel_rfl), trivial⟩ (k := ?_)
  exact ⟨rfl, rfl⟩

set_option maxRecDepth 100000 in
theorem cmpCompare_c (x y : Int) (w : World) : Calls Try.prog 92 #[.int .i64 x, .int .i64 y] w fun e w' => e = .returned (.int .i64 (cmpI x y)) ∧ Adds w w' := by
  have K : Keeps (fun _ => False) w w := Keeps.refl _ w
  refine Calls.start Try.func92 rfl (by kernel_rfl) ?_
  refine WC.seq ?_
  refine WC.region ?_
  refine WL.op (d := 4) (.int .i64 0) (k := ?_)
  refine WL.nil ?_
  refine WX.seqN ?_
  refine WC.seq ?_
  refine WC.region ?_
  refine WL.op (d := 7) (.int .i64 x) (k := ?_)
  refine WL.callG (d := 8) (f := 98) (args := #[.int .i64 x]) (cmpNaN_c x w) (k := fun e_ w_ h_ => ⟨.bool false, h_.1, ?_⟩)
  replace h_ := h_.2.symm; subst h_
  refine WL.op (d := 5) (.bool false) (k := ?_)
  refine WL.nil ?_
  refine WX.seqN ?_
  refine WC.seq ?_
  refine WC.region ?_
  refine WL.op (d := 9) (.int .i64 y) (k := ?_)
  refine WL.callG (d := 10) (f := 98) (args := #[.int .i64 y]) (cmpNaN_c y w) (k := fun e_ w_ h_ => ⟨.bool false, h_.1, ?_⟩)
  replace h_ := h_.2.symm; subst h_
  refine WL.op (d := 6) (.bool false) (k := ?_)
  refine WL.nil ?_
  refine WX.seqN ?_
  refine WC.seq ?_
  refine WC.seq ?_
  refine WC.region ?_
  refine WL.op (d := 11) (.bool false) (k := ?_)
  refine WL.nil ?_
  refine WX.seqN ?_
  refine WC.condF (k := ?_)
  refine WC.skip ?_
  refine WX.seqN ?_
  refine WC.seq ?_
  refine WC.seq ?_
  refine WC.region ?_
  refine WL.op (d := 13) (.bool false) (k := ?_)
  refine WL.nil ?_
  refine WX.seqN ?_
  refine WC.condF (k := ?_)
  refine WC.skip ?_
  refine WX.seqN ?_
  refine WC.seq ?_
  refine WC.seq ?_
  refine WC.region ?_
  refine WL.op (d := 14) (.int .i64 x) (k := ?_)
  refine WL.op (d := 15) (.int .i64 y) (k := ?_)
  refine WL.op (d := 16) (.bool (decide (x < y))) (k := ?_)
  refine WL.nil ?_
  refine WX.seqN ?_
  refine WC.cond (b := decide (x < y)) (ht := fun h1 => ?_) (hf := fun h1 => ?_)
  · have ph1 := of_decide_eq_true h1
    refine WC.seq ?_
    refine WC.region ?_
    refine WL.op (d := 4) (.int .i64 (-1)) (k := ?_)
    refine WL.nil ?_
    refine WX.seqN ?_
    refine WC.ret ?_
    refine WX.seqR ?_
    refine WX.ret (rs := [.tmp 4]) [.int .i64 (-1)] (.int .i64 (-1)) ⟨(by kernel_rfl), trivial⟩ (k := ?_)
    exact ⟨ret_int (by unfold cmpI; first | (rw [if_pos (by omega)]) | (rw [if_neg (by omega), if_pos (by omega)]) | (rw [if_neg (by omega), if_neg (by omega)])), K⟩
  · have ph1 := of_decide_eq_false h1
    refine WC.skip ?_
    refine WX.seqN ?_
    refine WC.seq ?_
    refine WC.seq ?_
    refine WC.region ?_
    refine WL.op (d := 17) (.int .i64 x) (k := ?_)
    refine WL.op (d := 18) (.int .i64 y) (k := ?_)
    refine WL.op (d := 19) (.bool (decide (x > y))) (k := ?_)
    refine WL.nil ?_
    refine WX.seqN ?_
    refine WC.cond (b := decide (x > y)) (ht := fun h2 => ?_) (hf := fun h2 => ?_)
    · have ph2 := of_decide_eq_true h2
      refine WC.seq ?_
      refine WC.region ?_
      refine WL.op (d := 4) (.int .i64 1) (k := ?_)
      refine WL.nil ?_
      refine WX.seqN ?_
      refine WC.ret ?_
      refine WX.seqR ?_
      refine WX.ret (rs := [.tmp 4]) [.int .i64 1] (.int .i64 1) ⟨(by kernel_rfl), trivial⟩ (k := ?_)
      exact ⟨ret_int (by unfold cmpI; first | (rw [if_pos (by omega)]) | (rw [if_neg (by omega), if_pos (by omega)]) | (rw [if_neg (by omega), if_neg (by omega)])), K⟩
    · have ph2 := of_decide_eq_false h2
      refine WC.skip ?_
      refine WX.seqN ?_
      refine WC.seq ?_
      refine WC.region ?_
      refine WL.op (d := 4) (.int .i64 0) (k := ?_)
      refine WL.nil ?_
      refine WX.seqN ?_
      refine WC.ret ?_
      refine WX.ret (rs := [.tmp 4]) [.int .i64 0] (.int .i64 0) ⟨(by kernel_rfl), trivial⟩ (k := ?_)
      exact ⟨ret_int (by unfold cmpI; first | (rw [if_pos (by omega)]) | (rw [if_neg (by omega), if_pos (by omega)]) | (rw [if_neg (by omega), if_neg (by omega)])), K⟩

set_option maxRecDepth 100000 in
theorem tAt1_c (r : GRow) (x : Int) (w : World) : Calls Try.prog 91 #[r.val, .int .i64 x] w fun e w' => e = .returned (.int .i64 (cmpI r.task.id x)) ∧ Adds w w' := by
  have K : Keeps (fun _ => False) w w := Keeps.refl _ w
  refine Calls.start Try.func91 rfl (by kernel_rfl) ?_
  refine WC.seq ?_
  refine WC.region ?_
  refine WL.new (d := 2) (T := 53) (Value.cells (GRow.val r)) (k := fun b1 w2 g3 hb4 k5 => ?_)
  have z6 := Nat.le_trans K.size g3
  replace K := K.trans (k5.any _)
  refine WL.op (d := 4) (.int .i64 0) (k := ?_)
  refine WL.nil ?_
  refine WX.seqN ?_
  refine WC.seq ?_
  refine WC.region ?_
  refine WL.op (d := 5) (.pointer (some ⟨b1, 0, none⟩)) (k := ?_)
  refine WL.op (d := 6) (.pointer (some ⟨b1, 0, none⟩)) (k := ?_)
  refine WL.load (v := .int .i64 r.task.id) (ld1 (T := 3) (i := 0) hb4) (k := ?_)
  refine WL.op (d := 8) (.int .i64 x) (k := ?_)
  refine WL.callG (d := 9) (f := 92) (args := #[.int .i64 r.task.id, .int .i64 x]) (cmpCompare_c r.task.id x w2) (k := fun e_ w7 h_ => ⟨.int .i64 (cmpI r.task.id x), h_.1, ?_⟩)
  have k8 := h_.2; clear h_
  replace hb4 := k8.heap hb4 id
  replace K := K.trans (k8.any _)
  refine WL.op (d := 4) (.int .i64 (cmpI r.task.id x)) (k := ?_)
  refine WL.nil ?_
  refine WX.seqN ?_
  refine WC.ret ?_
  refine WX.ret (rs := [.tmp 4]) [.int .i64 (cmpI r.task.id x)] (.int .i64 (cmpI r.task.id x)) ⟨(by kernel_rfl), trivial⟩ (k := ?_)
  exact ⟨rfl, K⟩

set_option maxRecDepth 100000 in
theorem tFind1_c (r : GRow) {bx : Nat} {x : Int} {w : World} (hx : w.heap[bx]? = some (.cells #[.int .i64 x] 3 (0, 0))) : Calls Try.prog 80 #[r.val, .pointer (some ⟨bx, 0, none⟩)] w fun e w' => e = .returned (.bool (r.task.id == x)) ∧ Adds w w' := by
  have K : Keeps (fun _ => False) w w := Keeps.refl _ w
  refine Calls.start Try.func80 rfl (by kernel_rfl) ?_
  refine WC.seq ?_
  refine WC.region ?_
  refine WL.new (d := 2) (T := 53) (Value.cells (GRow.val r)) (k := fun b1 w2 g3 hb4 k5 => ?_)
  have z6 := Nat.le_trans K.size g3
  have n7 : bx ≠ b1 := Nat.ne_of_lt (Nat.lt_of_lt_of_le (lt_of_heap hx) g3)
  replace K := K.trans (k5.any _)
  refine WL.op (d := 3) (.bool false) (k := ?_)
  refine WL.nil ?_
  refine WX.seqN ?_
  refine WC.seq ?_
  refine WC.region ?_
  refine WL.op (d := 4) (.pointer (some ⟨b1, 0, none⟩)) (k := ?_)
  refine WL.op (d := 5) (.pointer (some ⟨b1, 0, none⟩)) (k := ?_)
  refine WL.load (v := .int .i64 r.task.id) (ld1 (T := 3) (i := 0) hb4) (k := ?_)
  refine WL.load (v := .int .i64 x) (ld1 (T := 3) (i := 0) (K.heap hx id)) (k := ?_)
  refine WL.op (d := 8) (.bool (r.task.id == x)) (k := ?_)
  refine WL.op (d := 3) (.bool (r.task.id == x)) (k := ?_)
  refine WL.nil ?_
  refine WX.seqN ?_
  refine WC.ret ?_
  refine WX.ret (rs := [.tmp 3]) [.bool (r.task.id == x)] (.bool (r.task.id == x)) ⟨(by kernel_rfl), trivial⟩ (k := ?_)
  exact ⟨rfl, K⟩

set_option maxRecDepth 100000 in
theorem sBin_c {A : Option Addr} {cp : Nat} {xs : List GRow} {w : World} (hA : SlAt rowC 6 53 A xs w) (hn : xs.length ≤ 1000000000) (x : Int) (hs : sortedR xs) : Calls Try.prog 90 #[.slice A xs.length cp, .int .i64 x, .func (.func 91) #[] #[]] w fun e w' => e = .returned (.tuple #[.int .i64 (posR xs x : Int), .bool (hasR xs x)]) ∧ Adds w w' := by
  have K : Keeps (fun _ => False) w w := Keeps.refl _ w
  refine Calls.start Try.func90 rfl (by kernel_rfl) ?_
  refine WC.seq ?_
  refine WC.region ?_
  refine WL.op (d := 6) (.int .i64 0) (k := ?_)
  refine WL.op (d := 7) (.bool false) (k := ?_)
  refine WL.nil ?_
  refine WX.seqN ?_
  refine WC.seq ?_
  refine WC.region ?_
  refine WL.op (d := 12) (.slice A xs.length cp) (k := ?_)
  refine WL.op (d := 13) (.int .i64 (xs.length : Int)) (k := ?_)
  refine WL.op (d := 8) (.int .i64 (xs.length : Int)) (k := ?_)
  refine WL.nil ?_
  refine WX.seqN ?_
  refine WC.seq ?_
  refine WC.region ?_
  refine WL.op (d := 14) (.int .i64 (xs.length : Int)) (k := ?_)
  refine WL.op (d := 9) (.int .i64 0) (k := ?_)
  refine WL.op (d := 10) (.int .i64 (xs.length : Int)) (k := ?_)
  refine WL.nil ?_
  refine WX.seqN ?_
  refine WC.seq ?_
  refine WC.block ?_
  refine WC.loop (ι := Int × Int) (fun (⟨i, j⟩ : Int × Int) => [(0, .slice A xs.length cp), (1, .int .i64 x), (2, .func (.func 91) #[] #[]), (6, .int .i64 0), (7, .bool false), (12, .slice A xs.length cp), (13, .int .i64 (xs.length : Int)), (8, .int .i64 (xs.length : Int)), (14, .int .i64 (xs.length : Int)), (9, .int .i64 i), (10, .int .i64 j)]) (fun (⟨i, j⟩ : Int × Int) (w_ : World) => (Keeps (fun _ => False) w w_) ∧ (0 ≤ i) ∧ (i ≤ j) ∧ (j ≤ xs.length) ∧ (lowR xs x i) ∧ (highR xs x j)) (fun (⟨i, j⟩ : Int × Int) => (j - i).toNat) (0, (xs.length : Int)) ⟨(by kernel_rfl), (by kernel_rfl), (by kernel_rfl), (by kernel_rfl), (by kernel_rfl), (by kernel_rfl), (by kernel_rfl), (by kernel_rfl), (by kernel_rfl), (by kernel_rfl), (by kernel_rfl), trivial⟩ ⟨K, Int.le_refl 0, (by omega), (Int.le_refl _), (fun k r h => by omega), (fun k r h hr => by have := (List.getElem?_eq_some_iff.1 hr).1; omega)⟩ ?_
  rintro ⟨i, j⟩ w1 ⟨K, i0, i1, i2, il, iu⟩
  refine WC.seq ?_
  refine WC.seq ?_
  refine WC.region ?_
  refine WL.op (d := 15) (.int .i64 i) (k := ?_)
  refine WL.op (d := 16) (.int .i64 j) (k := ?_)
  refine WL.op (d := 17) (.bool (decide (i < j))) (k := ?_)
  refine WL.nil ?_
  refine WX.seqN ?_
  refine WC.cond (b := decide (i < j)) (ht := fun h2 => ?_) (hf := fun h2 => ?_)
  · have ph2 := of_decide_eq_true h2
    refine WC.skip ?_
    refine WX.seqN ?_
    refine WC.block ?_
    refine WC.seq ?_
    refine WC.region ?_
    refine WL.op (d := 18) (.int .i64 i) (k := ?_)
    refine WL.op (d := 19) (.int .i64 j) (k := ?_)
    refine WL.opE (d := 20) (.int .i64 (IntKind.i64.wrap (i + j))) (v := .int .i64 (i + j)) (congrArg (Value.int .i64) (IntWalk.i64_in _ (by omega))) (k := ?_)
    refine WL.opE (d := 21) (.int .u64 (IntKind.u64.wrap (i + j))) (v := .int .u64 (i + j)) (congrArg (Value.int .u64) (IntWalk.u64_in _ (by omega))) (k := ?_)
    refine WL.bin (d := 22) (v := .int .u64 ((i + j) / 2)) (shr_run (k := .u64) (yk := .u64) (x := (i + j)) (y := 1) (c := 2) (by decide) (by decide) (by decide)) (k := ?_)
    refine WL.opE (d := 23) (.int .i64 (IntKind.i64.wrap ((i + j) / 2))) (v := .int .i64 ((i + j) / 2)) (congrArg (Value.int .i64) (IntWalk.i64_in _ (by omega))) (k := ?_)
    refine WL.op (d := 11) (.int .i64 ((i + j) / 2)) (k := ?_)
    refine WL.nil ?_
    refine WX.seqN ?_
    refine WC.seq ?_
    refine WC.region ?_
    refine WL.op (d := 24) (.func (.func 91) #[] #[]) (k := ?_)
    refine WL.op (d := 25) (.slice A xs.length cp) (k := ?_)
    refine WL.op (d := 26) (.int .i64 ((i + j) / 2)) (k := ?_)
    obtain ⟨b3, o4, r5, hr6, hA7, he8⟩ := SlAt.at hA (i := (i + j) / 2) (by omega) (by omega)
    refine WL.rw (t := 25) (v := .slice (some ⟨b3, o4, none⟩) xs.length cp) (congrArg (fun a => Value.slice a xs.length cp) hA7) (k := ?_)
    refine WL.idx (T := 22) (E := 53) (m := 6) (b := b3) (o := o4) (len := xs.length) (cap := cp) (i := (i + j) / 2) (kk := .i64) (d := 27) (by omega) (by omega) (k := ?_)
    refine WL.rw (t := 25) (v := .slice A xs.length cp) (congrArg (fun a => Value.slice a xs.length cp) (Eq.symm hA7)) (k := ?_)
    refine WL.load (v := GRow.val r5) ((he8.adds K).ldW (T := 53)) (k := ?_)
    refine WL.op (d := 29) (.int .i64 x) (k := ?_)
    refine WL.callG (d := 30) (f := 91) (args := #[GRow.val r5, .int .i64 x]) (tAt1_c r5 x w1) (k := fun e_ w9 h_ => ⟨.int .i64 (cmpI r5.task.id x), h_.1, ?_⟩)
    have k10 := h_.2; clear h_
    replace K := K.trans (k10.any _)
    refine WL.op (d := 31) (.bool (decide ((cmpI r5.task.id x) < 0))) (k := ?_)
    refine WL.nil ?_
    refine WX.seqN ?_
    refine WC.cond (b := decide ((cmpI r5.task.id x) < 0)) (ht := fun h11 => ?_) (hf := fun h11 => ?_)
    · have ph11 := of_decide_eq_true h11
      refine WC.region ?_
      refine WL.op (d := 32) (.int .i64 ((i + j) / 2)) (k := ?_)
      refine WL.opE (d := 33) (.int .i64 (IntKind.i64.wrap (((i + j) / 2) + 1))) (v := .int .i64 (((i + j) / 2) + 1)) (congrArg (Value.int .i64) (IntWalk.i64_in _ (by omega))) (k := ?_)
      refine WL.op (d := 9) (.int .i64 (((i + j) / 2) + 1)) (k := ?_)
      refine WL.nil ?_
      refine WX.blockN ?_
      refine WX.round ((i + j) / 2 + 1, j) (by show (j - ((i + j) / 2 + 1)).toNat < (j - i).toNat; omega) ⟨(by kernel_rfl), (by kernel_rfl), (by kernel_rfl), (by kernel_rfl), (by kernel_rfl), (by kernel_rfl), (by kernel_rfl), (by kernel_rfl), (by kernel_rfl), (by kernel_rfl), (by kernel_rfl), trivial⟩ ⟨K, (by omega), (by omega), (by omega), (low_step hs (by omega) hr6 (cmpI_lt.1 ph11)), iu⟩
    · have ph11 := of_decide_eq_false h11
      refine WC.region ?_
      refine WL.op (d := 34) (.int .i64 ((i + j) / 2)) (k := ?_)
      refine WL.op (d := 10) (.int .i64 ((i + j) / 2)) (k := ?_)
      refine WL.nil ?_
      refine WX.blockN ?_
      refine WX.round (i, (i + j) / 2) (by show (((i + j) / 2) - i).toNat < (j - i).toNat; omega) ⟨(by kernel_rfl), (by kernel_rfl), (by kernel_rfl), (by kernel_rfl), (by kernel_rfl), (by kernel_rfl), (by kernel_rfl), (by kernel_rfl), (by kernel_rfl), (by kernel_rfl), (by kernel_rfl), trivial⟩ ⟨K, (by omega), (by omega), (by omega), il, (high_step hs (by omega) hr6 (fun h => ph11 (cmpI_lt.2 h)))⟩
  · have ph2 := of_decide_eq_false h2
    refine WC.exit ?_
    refine WX.seqE ?_
    refine WX.seqE ?_
    refine WX.blockE ?_
    refine WX.seqN ?_
    refine WC.seq ?_
    refine WC.region ?_
    refine WL.op (d := 35) (.int .i64 i) (k := ?_)
    refine WL.op (d := 36) (.int .i64 i) (k := ?_)
    refine WL.op (d := 37) (.int .i64 (xs.length : Int)) (k := ?_)
    refine WL.op (d := 38) (.bool (decide (i < (xs.length : Int)))) (k := ?_)
    refine WL.op (d := 39) (.bool (decide (i < (xs.length : Int)))) (k := ?_)
    refine bsplit (decide (i < (xs.length : Int))) (fun h12 => ?_) (fun h12 => ?_)
    · have ph12 := of_decide_eq_true h12
      refine WL.rw (t := 39) (v := .bool true) (congrArg Value.bool h12) (k := ?_)
      refine WL.op (d := 40) (.func (.func 91) #[] #[]) (k := ?_)
      refine WL.op (d := 41) (.slice A xs.length cp) (k := ?_)
      refine WL.op (d := 42) (.int .i64 i) (k := ?_)
      obtain ⟨b13, o14, r15, hr16, hA17, he18⟩ := SlAt.at hA (i := i) (by omega) (by omega)
      refine WL.rw (t := 41) (v := .slice (some ⟨b13, o14, none⟩) xs.length cp) (congrArg (fun a => Value.slice a xs.length cp) hA17) (k := ?_)
      refine WL.idx (T := 22) (E := 53) (m := 6) (b := b13) (o := o14) (len := xs.length) (cap := cp) (i := i) (kk := .i64) (d := 43) (by omega) (by omega) (k := ?_)
      refine WL.rw (t := 41) (v := .slice A xs.length cp) (congrArg (fun a => Value.slice a xs.length cp) (Eq.symm hA17)) (k := ?_)
      refine WL.load (v := GRow.val r15) ((he18.adds K).ldW (T := 53)) (k := ?_)
      refine WL.op (d := 45) (.int .i64 x) (k := ?_)
      refine WL.callG (d := 46) (f := 91) (args := #[GRow.val r15, .int .i64 x]) (tAt1_c r15 x w1) (k := fun e_ w19 h_ => ⟨.int .i64 (cmpI r15.task.id x), h_.1, ?_⟩)
      have k20 := h_.2; clear h_
      replace K := K.trans (k20.any _)
      refine WL.op (d := 47) (.bool ((cmpI r15.task.id x) == 0)) (k := ?_)
      refine WL.op (d := 48) (.bool ((cmpI r15.task.id x) == 0)) (k := ?_)
      refine WL.op (d := 6) (.int .i64 i) (k := ?_)
      refine WL.op (d := 7) (.bool ((cmpI r15.task.id x) == 0)) (k := ?_)
      refine WL.nil ?_
      refine WX.seqN ?_
      refine WC.ret ?_
      refine WX.ret (rs := [.tmp 6, .tmp 7]) [.int .i64 i, .bool ((cmpI r15.task.id x) == 0)] (.tuple #[.int .i64 i, .bool ((cmpI r15.task.id x) == 0)]) ⟨(by kernel_rfl), (by kernel_rfl), trivial⟩ (k := ?_)
      have e_ : j = i := by omega
      subst e_
      have hp := pos_of i0 i2 il iu
      exact ⟨by rw [hp, ← has_some hp hr16], K⟩
    · have ph12 := of_decide_eq_false h12
      refine WL.rw (t := 39) (v := .bool false) (congrArg Value.bool h12) (k := ?_)
      refine WL.skip (d := 40) (k := ?_)
      refine WL.skip (d := 41) (k := ?_)
      refine WL.skip (d := 42) (k := ?_)
      refine WL.skip (d := 43) (k := ?_)
      refine WL.skip (d := 44) (k := ?_)
      refine WL.skip (d := 45) (k := ?_)
      refine WL.skip (d := 46) (k := ?_)
      refine WL.skip (d := 47) (k := ?_)
      refine WL.op (d := 48) (.bool false) (k := ?_)
      refine WL.op (d := 6) (.int .i64 i) (k := ?_)
      refine WL.op (d := 7) (.bool false) (k := ?_)
      refine WL.nil ?_
      refine WX.seqN ?_
      refine WC.ret ?_
      refine WX.ret (rs := [.tmp 6, .tmp 7]) [.int .i64 i, .bool false] (.tuple #[.int .i64 i, .bool false]) ⟨(by kernel_rfl), (by kernel_rfl), trivial⟩ (k := ?_)
      have e_ : j = i := by omega
      subst e_
      have hp := pos_of i0 i2 il iu
      exact ⟨by rw [hp, ← has_none hp (by omega)], K⟩

set_option maxRecDepth 100000 in
theorem sIdxFind_c {A : Option Addr} {cp : Nat} {xs : List GRow} {w : World} (hA : SlAt rowC 6 53 A xs w) (hn : xs.length ≤ 1000000000) {bx : Nat} {x : Int} (hx : w.heap[bx]? = some (.cells #[.int .i64 x] 3 (0, 0))) : Calls Try.prog 79 #[.slice A xs.length cp, .func (.func 80) #[] #[.pointer (some ⟨bx, 0, none⟩)]] w fun e w' => e = .returned (.int .i64 (idxR xs x)) ∧ Adds w w' := by
  have K : Keeps (fun _ => False) w w := Keeps.refl _ w
  refine Calls.start Try.func79 rfl (by kernel_rfl) ?_
  refine WC.seq ?_
  refine WC.region ?_
  refine WL.op (d := 4) (.int .i64 0) (k := ?_)
  refine WL.nil ?_
  refine WX.seqN ?_
  refine WC.seq ?_
  refine WC.seq ?_
  refine WC.region ?_
  refine WL.op (d := 6) (.slice A xs.length cp) (k := ?_)
  refine WL.op (d := 7) (.int .i64 (xs.length : Int)) (k := ?_)
  refine WL.op (d := 8) (.int .i64 0) (k := ?_)
  refine WL.nil ?_
  refine WX.seqN ?_
  refine WC.block ?_
  refine WC.loop (ι := Int) (fun (i : Int) => [(0, .slice A xs.length cp), (1, .func (.func 80) #[] #[.pointer (some ⟨bx, 0, none⟩)]), (6, .slice A xs.length cp), (7, .int .i64 (xs.length : Int)), (8, .int .i64 i)]) (fun (i : Int) (w_ : World) => (Keeps (fun _ => False) w w_) ∧ (0 ≤ i) ∧ (i ≤ xs.length) ∧ (noneR xs x i)) (fun (i : Int) => (xs.length - i).toNat) 0 ⟨(by kernel_rfl), (by kernel_rfl), (by kernel_rfl), (by kernel_rfl), (by kernel_rfl), trivial⟩ ⟨K, Int.le_refl 0, (by omega), none_zero _ _⟩ ?_
  rintro i w1 ⟨K, i0, i1, iu⟩
  refine WC.seq ?_
  refine WC.region ?_
  refine WL.op (d := 9) (.bool (decide (i < (xs.length : Int)))) (k := ?_)
  refine WL.nil ?_
  refine WX.seqN ?_
  refine WC.seq ?_
  refine WC.cond (b := decide (i < (xs.length : Int))) (ht := fun h2 => ?_) (hf := fun h2 => ?_)
  · have ph2 := of_decide_eq_true h2
    refine WC.skip ?_
    refine WX.seqN ?_
    refine WC.seq ?_
    refine WC.block ?_
    refine WC.seq ?_
    refine WC.region ?_
    refine WL.op (d := 10) (.int .i64 i) (k := ?_)
    refine WL.op (d := 5) (.int .i64 i) (k := ?_)
    refine WL.nil ?_
    refine WX.seqN ?_
    refine WC.seq ?_
    refine WC.region ?_
    refine WL.op (d := 11) (.func (.func 80) #[] #[.pointer (some ⟨bx, 0, none⟩)]) (k := ?_)
    refine WL.op (d := 12) (.slice A xs.length cp) (k := ?_)
    refine WL.op (d := 13) (.int .i64 i) (k := ?_)
    obtain ⟨b3, o4, r5, hr6, hA7, he8⟩ := SlAt.at hA (i := i) (by omega) (by omega)
    refine WL.rw (t := 12) (v := .slice (some ⟨b3, o4, none⟩) xs.length cp) (congrArg (fun a => Value.slice a xs.length cp) hA7) (k := ?_)
    refine WL.idx (T := 22) (E := 53) (m := 6) (b := b3) (o := o4) (len := xs.length) (cap := cp) (i := i) (kk := .i64) (d := 14) (by omega) (by omega) (k := ?_)
    refine WL.rw (t := 12) (v := .slice A xs.length cp) (congrArg (fun a => Value.slice a xs.length cp) (Eq.symm hA7)) (k := ?_)
    refine WL.load (v := GRow.val r5) ((he8.adds K).ldW (T := 53)) (k := ?_)
    refine WL.callG (d := 16) (f := 80) (args := #[GRow.val r5, .pointer (some ⟨bx, 0, none⟩)]) (tFind1_c r5 (K.heap hx id)) (k := fun e_ w9 h_ => ⟨.bool (r5.task.id == x), h_.1, ?_⟩)
    have k10 := h_.2; clear h_
    replace K := K.trans (k10.any _)
    refine WL.nil ?_
    refine WX.seqN ?_
    refine WC.cond (b := r5.task.id == x) (ht := fun h11 => ?_) (hf := fun h11 => ?_)
    · have ph11 := eq_of_beq h11
      refine WC.seq ?_
      refine WC.region ?_
      refine WL.op (d := 17) (.int .i64 i) (k := ?_)
      refine WL.op (d := 4) (.int .i64 i) (k := ?_)
      refine WL.nil ?_
      refine WX.seqN ?_
      refine WC.ret ?_
      refine WX.blockR ?_
      refine WX.seqR ?_
      refine WX.seqR ?_
      refine WX.blockR ?_
      refine WX.seqR ?_
      refine WX.ret (rs := [.tmp 4]) [.int .i64 i] (.int .i64 i) ⟨(by kernel_rfl), trivial⟩ (k := ?_)
      exact ⟨ret_int (idx_at i0 iu hr6 ph11), K⟩
    · have ph11 := ne_of_beq_false h11
      refine WC.skip ?_
      refine WX.blockN ?_
      refine WX.seqN ?_
      refine WC.region ?_
      refine WL.opE (d := 18) (.int .i64 (IntKind.i64.wrap (i + 1))) (v := .int .i64 (i + 1)) (congrArg (Value.int .i64) (IntWalk.i64_in _ (by omega))) (k := ?_)
      refine WL.op (d := 8) (.int .i64 (i + 1)) (k := ?_)
      refine WL.nil ?_
      refine WX.round (i + 1) (by show (xs.length - (i + 1)).toNat < (xs.length - i).toNat; omega) ⟨(by kernel_rfl), (by kernel_rfl), (by kernel_rfl), (by kernel_rfl), (by kernel_rfl), trivial⟩ ⟨K, (by omega), (by omega), (none_succ i0 iu hr6 ph11)⟩
  · have ph2 := of_decide_eq_false h2
    refine WC.exit ?_
    refine WX.seqE ?_
    refine WX.seqE ?_
    refine WX.blockE ?_
    refine WX.seqN ?_
    refine WC.seq ?_
    refine WC.region ?_
    refine WL.op (d := 4) (.int .i64 (-1)) (k := ?_)
    refine WL.nil ?_
    refine WX.seqN ?_
    refine WC.ret ?_
    refine WX.ret (rs := [.tmp 4]) [.int .i64 (-1)] (.int .i64 (-1)) ⟨(by kernel_rfl), trivial⟩ (k := ?_)
    exact ⟨ret_int (idx_no (i := i) (by omega) iu), K⟩

set_option maxRecDepth 100000 in
theorem u14at_c {A : Option Addr} {cp : Nat} {xs : List GRow} {w : World} (hA : SlAt rowC 6 53 A xs w) (hn : xs.length ≤ 1000000000) (md x : Int) : Calls Try.prog 87 #[.agg #[.slice A xs.length cp, .int .i64 md], .int .i64 x] w fun e w' => e = .returned (.int .i64 (idxR xs x)) ∧ Adds w w' := by
  have K : Keeps (fun _ => False) w w := Keeps.refl _ w
  refine Calls.start Try.func87 rfl (by kernel_rfl) ?_
  refine WC.seq ?_
  refine WC.region ?_
  refine WL.new (d := 2) (T := 24) #[.slice A xs.length cp, .int .i64 md] (k := fun b1 w2 g3 hb4 k5 => ?_)
  have z6 := Nat.le_trans K.size g3
  replace K := K.trans (k5.any _)
  refine WL.op (d := 4) (.int .i64 0) (k := ?_)
  refine WL.nil ?_
  refine WX.seqN ?_
  refine WC.seq ?_
  refine WC.seq ?_
  refine WC.region ?_
  refine WL.op (d := 5) (.int .i64 0) (k := ?_)
  refine WL.nil ?_
  refine WX.seqN ?_
  refine WC.block ?_
  refine WC.loop (ι := Int) (fun (i : Int) => [(0, .agg #[.slice A xs.length cp, .int .i64 md]), (1, .int .i64 x), (2, .pointer (some ⟨b1, 0, none⟩)), (5, .int .i64 i)]) (fun (i : Int) (w_ : World) => (Keeps (fun _ => False) w w_) ∧ (w_.heap[b1]? = some (.cells #[.slice A xs.length cp, .int .i64 md] 24 (0, 0))) ∧ (0 ≤ i) ∧ (i ≤ xs.length) ∧ (noneR xs x i)) (fun (i : Int) => (xs.length - i).toNat) 0 ⟨(by kernel_rfl), (by kernel_rfl), (by kernel_rfl), (by kernel_rfl), trivial⟩ ⟨K, hb4, Int.le_refl 0, (by omega), none_zero _ _⟩ ?_
  rintro i w7 ⟨K, hb8, i0, i1, iu⟩
  refine WC.seq ?_
  refine WC.seq ?_
  refine WC.region ?_
  refine WL.op (d := 6) (.int .i64 i) (k := ?_)
  refine WL.op (d := 7) (.pointer (some ⟨b1, 0, none⟩)) (k := ?_)
  refine WL.load (v := .slice A xs.length cp) (ld1 (T := 22) (i := 0) hb8) (k := ?_)
  refine WL.op (d := 9) (.int .i64 (xs.length : Int)) (k := ?_)
  refine WL.op (d := 10) (.bool (decide (i < (xs.length : Int)))) (k := ?_)
  refine WL.nil ?_
  refine WX.seqN ?_
  refine WC.cond (b := decide (i < (xs.length : Int))) (ht := fun h9 => ?_) (hf := fun h9 => ?_)
  · have ph9 := of_decide_eq_true h9
    refine WC.skip ?_
    refine WX.seqN ?_
    refine WC.seq ?_
    refine WC.block ?_
    refine WC.seq ?_
    refine WC.region ?_
    refine WL.op (d := 13) (.pointer (some ⟨b1, 0, none⟩)) (k := ?_)
    refine WL.load (v := .slice A xs.length cp) (ld1 (T := 22) (i := 0) hb8) (k := ?_)
    refine WL.op (d := 15) (.int .i64 i) (k := ?_)
    obtain ⟨b10, o11, r12, hr13, hA14, he15⟩ := SlAt.at hA (i := i) (by omega) (by omega)
    refine WL.rw (t := 14) (v := .slice (some ⟨b10, o11, none⟩) xs.length cp) (congrArg (fun a => Value.slice a xs.length cp) hA14) (k := ?_)
    refine WL.idx (T := 22) (E := 53) (m := 6) (b := b10) (o := o11) (len := xs.length) (cap := cp) (i := i) (kk := .i64) (d := 16) (by omega) (by omega) (k := ?_)
    refine WL.rw (t := 14) (v := .slice A xs.length cp) (congrArg (fun a => Value.slice a xs.length cp) (Eq.symm hA14)) (k := ?_)
    refine WL.op (d := 17) (.pointer (some ⟨b10, o11 + (i).toNat * 6, none⟩)) (k := ?_)
    refine WL.op (d := 18) (.pointer (some ⟨b10, o11 + (i).toNat * 6, none⟩)) (k := ?_)
    refine WL.load (v := .int .i64 r12.task.id) ((he15.adds K).ld0 (T := 3)) (k := ?_)
    refine WL.op (d := 20) (.int .i64 x) (k := ?_)
    refine WL.op (d := 21) (.bool (r12.task.id == x)) (k := ?_)
    refine WL.nil ?_
    refine WX.seqN ?_
    refine WC.cond (b := r12.task.id == x) (ht := fun h16 => ?_) (hf := fun h16 => ?_)
    · have ph16 := eq_of_beq h16
      refine WC.seq ?_
      refine WC.region ?_
      refine WL.op (d := 22) (.int .i64 i) (k := ?_)
      refine WL.op (d := 4) (.int .i64 i) (k := ?_)
      refine WL.nil ?_
      refine WX.seqN ?_
      refine WC.ret ?_
      refine WX.blockR ?_
      refine WX.seqR ?_
      refine WX.seqR ?_
      refine WX.blockR ?_
      refine WX.seqR ?_
      refine WX.ret (rs := [.tmp 4]) [.int .i64 i] (.int .i64 i) ⟨(by kernel_rfl), trivial⟩ (k := ?_)
      exact ⟨ret_int (idx_at i0 iu hr13 ph16), K⟩
    · have ph16 := ne_of_beq_false h16
      refine WC.skip ?_
      refine WX.blockN ?_
      refine WX.seqN ?_
      refine WC.region ?_
      refine WL.op (d := 11) (.int .i64 i) (k := ?_)
      refine WL.opE (d := 12) (.int .i64 (IntKind.i64.wrap (i + 1))) (v := .int .i64 (i + 1)) (congrArg (Value.int .i64) (IntWalk.i64_in _ (by omega))) (k := ?_)
      refine WL.op (d := 5) (.int .i64 (i + 1)) (k := ?_)
      refine WL.nil ?_
      refine WX.round (i + 1) (by show (xs.length - (i + 1)).toNat < (xs.length - i).toNat; omega) ⟨(by kernel_rfl), (by kernel_rfl), (by kernel_rfl), (by kernel_rfl), trivial⟩ ⟨K, hb8, (by omega), (by omega), (none_succ i0 iu hr13 ph16)⟩
  · have ph9 := of_decide_eq_false h9
    refine WC.exit ?_
    refine WX.seqE ?_
    refine WX.seqE ?_
    refine WX.blockE ?_
    refine WX.seqN ?_
    refine WC.seq ?_
    refine WC.region ?_
    refine WL.op (d := 4) (.int .i64 (-1)) (k := ?_)
    refine WL.nil ?_
    refine WX.seqN ?_
    refine WC.ret ?_
    refine WX.ret (rs := [.tmp 4]) [.int .i64 (-1)] (.int .i64 (-1)) ⟨(by kernel_rfl), trivial⟩ (k := ?_)
    exact ⟨ret_int (idx_no (i := i) (by omega) iu), K⟩

set_option maxRecDepth 100000 in
theorem tAt_c {A : Option Addr} {cp : Nat} {xs : List GRow} {w : World} (hA : SlAt rowC 6 53 A xs w) (hn : xs.length ≤ 1000000000) (md x : Int) (hs : sortedR xs) : Calls Try.prog 71 #[.agg #[.slice A xs.length cp, .int .i64 md], .int .i64 x] w fun e w' => e = .returned (.tuple #[.int .i64 (posR xs x : Int), .bool (hasR xs x)]) ∧ Adds w w' := by
  have K : Keeps (fun _ => False) w w := Keeps.refl _ w
  refine Calls.start Try.func71 rfl (by kernel_rfl) ?_
  refine WC.seq ?_
  refine WC.region ?_
  refine WL.new (d := 2) (T := 24) #[.slice A xs.length cp, .int .i64 md] (k := fun b1 w2 g3 hb4 k5 => ?_)
  have z6 := Nat.le_trans K.size g3
  replace K := K.trans (k5.any _)
  refine WL.op (d := 4) (.int .i64 0) (k := ?_)
  refine WL.op (d := 5) (.bool false) (k := ?_)
  refine WL.nil ?_
  refine WX.seqN ?_
  refine WC.seq ?_
  refine WC.region ?_
  refine WL.op (d := 6) (.pointer (some ⟨b1, 0, none⟩)) (k := ?_)
  refine WL.load (v := .slice A xs.length cp) (ld1 (T := 22) (i := 0) hb4) (k := ?_)
  refine WL.op (d := 8) (.int .i64 x) (k := ?_)
  refine WL.callG (d := 9) (f := 90) (args := #[.slice A xs.length cp, .int .i64 x, .func (.func 91) #[] #[]]) (sBin_c (hA.adds K) (by omega) x hs) (k := fun e_ w7 h_ => ⟨.tuple #[.int .i64 (posR xs x : Int), .bool (hasR xs x)], h_.1, ?_⟩)
  have k8 := h_.2; clear h_
  replace hb4 := k8.heap hb4 id
  replace K := K.trans (k8.any _)
  refine WL.op (d := 10) (.int .i64 (posR xs x : Int)) (k := ?_)
  refine WL.op (d := 11) (.bool (hasR xs x)) (k := ?_)
  refine WL.op (d := 4) (.int .i64 (posR xs x : Int)) (k := ?_)
  refine WL.op (d := 5) (.bool (hasR xs x)) (k := ?_)
  refine WL.nil ?_
  refine WX.seqN ?_
  refine WC.ret ?_
  refine WX.ret (rs := [.tmp 4, .tmp 5]) [.int .i64 (posR xs x : Int), .bool (hasR xs x)] (.tuple #[.int .i64 (posR xs x : Int), .bool (hasR xs x)]) ⟨(by kernel_rfl), (by kernel_rfl), trivial⟩ (k := ?_)
  exact ⟨rfl, K⟩

set_option maxRecDepth 100000 in
theorem tFind_c {A : Option Addr} {cp : Nat} {xs : List GRow} {w : World} (hA : SlAt rowC 6 53 A xs w) (hn : xs.length ≤ 1000000000) (md x : Int) : Calls Try.prog 35 #[.agg #[.slice A xs.length cp, .int .i64 md], .int .i64 x] w fun e w' => e = .returned (.tuple #[(findV xs x).val, .bool (findR xs x).isSome]) ∧ Adds w w' := by
  have K : Keeps (fun _ => False) w w := Keeps.refl _ w
  have hi := idx_rng xs x
  refine Calls.start Try.func35 rfl (by kernel_rfl) ?_
  refine WC.seq ?_
  refine WC.region ?_
  refine WL.new (d := 2) (T := 24) #[.slice A xs.length cp, .int .i64 md] (k := fun b1 w2 g3 hb4 k5 => ?_)
  have z6 := Nat.le_trans K.size g3
  replace K := K.trans (k5.any _)
  refine WL.new (d := 3) (T := 3) #[.int .i64 x] (k := fun b7 w8 g9 hb10 k11 => ?_)
  have z12 := Nat.le_trans K.size g9
  have n13 : b1 ≠ b7 := Nat.ne_of_lt (Nat.lt_of_lt_of_le (lt_of_heap hb4) g9)
  replace hb4 := k11.heap hb4 id
  replace K := K.trans (k11.any _)
  refine WL.new (d := 4) (T := 53) #[.int .i64 0, .int .i64 0, .int .i64 0, .int .i64 0, .int .i64 0, .bool false] (k := fun b14 w15 g16 hb17 k18 => ?_)
  have z19 := Nat.le_trans K.size g16
  have n20 : b1 ≠ b14 := Nat.ne_of_lt (Nat.lt_of_lt_of_le (lt_of_heap hb4) g16)
  have n21 : b7 ≠ b14 := Nat.ne_of_lt (Nat.lt_of_lt_of_le (lt_of_heap hb10) g16)
  replace hb4 := k18.heap hb4 id
  replace hb10 := k18.heap hb10 id
  replace K := K.trans (k18.any _)
  refine WL.op (d := 5) (.bool false) (k := ?_)
  refine WL.nil ?_
  refine WX.seqN ?_
  refine WC.seq ?_
  refine WC.region ?_
  refine WL.op (d := 7) (.pointer (some ⟨b1, 0, none⟩)) (k := ?_)
  refine WL.load (v := .slice A xs.length cp) (ld1 (T := 22) (i := 0) hb4) (k := ?_)
  refine WL.op (d := 9) (.func (.func 80) #[] #[.pointer (some ⟨b7, 0, none⟩)]) (k := ?_)
  refine WL.callG (d := 10) (f := 79) (args := #[.slice A xs.length cp, .func (.func 80) #[] #[.pointer (some ⟨b7, 0, none⟩)]]) (sIdxFind_c (hA.adds K) (by omega) hb10) (k := fun e_ w22 h_ => ⟨.int .i64 (idxR xs x), h_.1, ?_⟩)
  have k23 := h_.2; clear h_
  replace hb4 := k23.heap hb4 id
  replace hb10 := k23.heap hb10 id
  replace hb17 := k23.heap hb17 id
  replace K := K.trans (k23.any _)
  refine WL.op (d := 6) (.int .i64 (idxR xs x)) (k := ?_)
  refine WL.nil ?_
  refine WX.seqN ?_
  refine WC.seq ?_
  refine WC.seq ?_
  refine WC.region ?_
  refine WL.op (d := 11) (.int .i64 (idxR xs x)) (k := ?_)
  refine WL.op (d := 12) (.bool (decide ((idxR xs x) < 0))) (k := ?_)
  refine WL.nil ?_
  refine WX.seqN ?_
  refine WC.cond (b := decide ((idxR xs x) < 0)) (ht := fun h24 => ?_) (hf := fun h24 => ?_)
  · have ph24 := of_decide_eq_true h24
    refine WC.seq ?_
    refine WC.region ?_
    refine WL.op (d := 13) (.agg #[.int .i64 0, .int .i64 0, .int .i64 0, .int .i64 0, .int .i64 0, .bool false]) (k := ?_)
    refine WL.store (v := .agg #[.int .i64 0, .int .i64 0, .int .i64 0, .int .i64 0, .int .i64 0, .bool false]) (i := 0) (cs' := #[.int .i64 0, .int .i64 0, .int .i64 0, .int .i64 0, .int .i64 0, .bool false]) hb17 (k := fun w25 hb26 k27 => ?_)
    replace hb4 := k27.heap hb4 n20
    replace hb10 := k27.heap hb10 n21
    replace K := K.trans' k27 (fun i hi e => absurd (e ▸ hi) (Nat.not_lt.2 z19))
    clear hb17
    refine WL.op (d := 5) (.bool false) (k := ?_)
    refine WL.nil ?_
    refine WX.seqN ?_
    refine WC.ret ?_
    refine WX.seqR ?_
    refine WX.ret (rs := [.cell 4 53, .tmp 5]) [.agg #[.int .i64 0, .int .i64 0, .int .i64 0, .int .i64 0, .int .i64 0, .bool false], .bool false] (.tuple #[.agg #[.int .i64 0, .int .i64 0, .int .i64 0, .int .i64 0, .int .i64 0, .bool false], .bool false]) ⟨⟨_, (by kernel_rfl), ldN (T := 53) (i := 0) (m := 6) (l := [.int .i64 0, .int .i64 0, .int .i64 0, .int .i64 0, .int .i64 0, .bool false]) hb26⟩, (by kernel_rfl), trivial⟩ (k := ?_)
    have hf := idx_neg ph24
    exact ⟨by simp [findV, hf, GRow.zero], K⟩
  · have ph24 := of_decide_eq_false h24
    refine WC.skip ?_
    refine WX.seqN ?_
    refine WC.seq ?_
    refine WC.region ?_
    refine WL.op (d := 14) (.pointer (some ⟨b1, 0, none⟩)) (k := ?_)
    refine WL.load (v := .slice A xs.length cp) (ld1 (T := 22) (i := 0) hb4) (k := ?_)
    refine WL.op (d := 16) (.int .i64 (idxR xs x)) (k := ?_)
    obtain ⟨b28, o29, r30, hr31, hA32, he33⟩ := SlAt.at hA (i := idxR xs x) (by omega) (by omega)
    refine WL.rw (t := 15) (v := .slice (some ⟨b28, o29, none⟩) xs.length cp) (congrArg (fun a => Value.slice a xs.length cp) hA32) (k := ?_)
    refine WL.idx (T := 22) (E := 53) (m := 6) (b := b28) (o := o29) (len := xs.length) (cap := cp) (i := idxR xs x) (kk := .i64) (d := 17) (by omega) (by omega) (k := ?_)
    refine WL.rw (t := 15) (v := .slice A xs.length cp) (congrArg (fun a => Value.slice a xs.length cp) (Eq.symm hA32)) (k := ?_)
    refine WL.load (v := GRow.val r30) ((he33.adds K).ldW (T := 53)) (k := ?_)
    refine WL.store (v := GRow.val r30) (i := 0) (cs' := (Value.cells (GRow.val r30))) hb17 (k := fun w34 hb35 k36 => ?_)
    replace hb4 := k36.heap hb4 n20
    replace hb10 := k36.heap hb10 n21
    replace K := K.trans' k36 (fun i hi e => absurd (e ▸ hi) (Nat.not_lt.2 z19))
    clear hb17
    refine WL.op (d := 5) (.bool true) (k := ?_)
    refine WL.nil ?_
    refine WX.seqN ?_
    refine WC.ret ?_
    refine WX.ret (rs := [.cell 4 53, .tmp 5]) [GRow.val r30, .bool true] (.tuple #[GRow.val r30, .bool true]) ⟨⟨_, (by kernel_rfl), ldN (T := 53) (i := 0) (m := 6) (l := (Value.cells (GRow.val r30)).toList) hb35⟩, (by kernel_rfl), trivial⟩ (k := ?_)
    have hf := idx_get ph24 hr31
    exact ⟨by simp [findV, hf], K⟩

set_option maxRecDepth 100000 in
theorem u14Find_c {A : Option Addr} {cp : Nat} {xs : List GRow} {w : World} (hA : SlAt rowC 6 53 A xs w) (hn : xs.length ≤ 1000000000) (md x : Int) : Calls Try.prog 49 #[.agg #[.slice A xs.length cp, .int .i64 md], .int .i64 x] w fun e w' => e = .returned (.tuple #[(findV xs x).val, .bool (findR xs x).isSome]) ∧ Adds w w' := by
  have K : Keeps (fun _ => False) w w := Keeps.refl _ w
  have hi := idx_rng xs x
  refine Calls.start Try.func49 rfl (by kernel_rfl) ?_
  refine WC.seq ?_
  refine WC.region ?_
  refine WL.new (d := 2) (T := 24) #[.slice A xs.length cp, .int .i64 md] (k := fun b1 w2 g3 hb4 k5 => ?_)
  have z6 := Nat.le_trans K.size g3
  replace K := K.trans (k5.any _)
  refine WL.new (d := 4) (T := 53) #[.int .i64 0, .int .i64 0, .int .i64 0, .int .i64 0, .int .i64 0, .bool false] (k := fun b7 w8 g9 hb10 k11 => ?_)
  have z12 := Nat.le_trans K.size g9
  have n13 : b1 ≠ b7 := Nat.ne_of_lt (Nat.lt_of_lt_of_le (lt_of_heap hb4) g9)
  replace hb4 := k11.heap hb4 id
  replace K := K.trans (k11.any _)
  refine WL.op (d := 5) (.bool false) (k := ?_)
  refine WL.nil ?_
  refine WX.seqN ?_
  refine WC.seq ?_
  refine WC.region ?_
  refine WL.load (v := .agg #[.slice A xs.length cp, .int .i64 md]) (ldN (T := 24) (i := 0) (m := 2) (l := [.slice A xs.length cp, .int .i64 md]) hb4) (k := ?_)
  refine WL.op (d := 8) (.int .i64 x) (k := ?_)
  refine WL.callG (d := 9) (f := 87) (args := #[.agg #[.slice A xs.length cp, .int .i64 md], .int .i64 x]) (u14at_c (hA.adds K) (by omega) md x) (k := fun e_ w14 h_ => ⟨.int .i64 (idxR xs x), h_.1, ?_⟩)
  have k15 := h_.2; clear h_
  replace hb4 := k15.heap hb4 id
  replace hb10 := k15.heap hb10 id
  replace K := K.trans (k15.any _)
  refine WL.op (d := 6) (.int .i64 (idxR xs x)) (k := ?_)
  refine WL.nil ?_
  refine WX.seqN ?_
  refine WC.seq ?_
  refine WC.seq ?_
  refine WC.region ?_
  refine WL.op (d := 10) (.int .i64 (idxR xs x)) (k := ?_)
  refine WL.op (d := 11) (.bool (decide ((idxR xs x) < 0))) (k := ?_)
  refine WL.nil ?_
  refine WX.seqN ?_
  refine WC.cond (b := decide ((idxR xs x) < 0)) (ht := fun h16 => ?_) (hf := fun h16 => ?_)
  · have ph16 := of_decide_eq_true h16
    refine WC.seq ?_
    refine WC.region ?_
    refine WL.op (d := 12) (.agg #[.int .i64 0, .int .i64 0, .int .i64 0, .int .i64 0, .int .i64 0, .bool false]) (k := ?_)
    refine WL.store (v := .agg #[.int .i64 0, .int .i64 0, .int .i64 0, .int .i64 0, .int .i64 0, .bool false]) (i := 0) (cs' := #[.int .i64 0, .int .i64 0, .int .i64 0, .int .i64 0, .int .i64 0, .bool false]) hb10 (k := fun w17 hb18 k19 => ?_)
    replace hb4 := k19.heap hb4 n13
    replace K := K.trans' k19 (fun i hi e => absurd (e ▸ hi) (Nat.not_lt.2 z12))
    clear hb10
    refine WL.op (d := 5) (.bool false) (k := ?_)
    refine WL.nil ?_
    refine WX.seqN ?_
    refine WC.ret ?_
    refine WX.seqR ?_
    refine WX.ret (rs := [.cell 4 53, .tmp 5]) [.agg #[.int .i64 0, .int .i64 0, .int .i64 0, .int .i64 0, .int .i64 0, .bool false], .bool false] (.tuple #[.agg #[.int .i64 0, .int .i64 0, .int .i64 0, .int .i64 0, .int .i64 0, .bool false], .bool false]) ⟨⟨_, (by kernel_rfl), ldN (T := 53) (i := 0) (m := 6) (l := [.int .i64 0, .int .i64 0, .int .i64 0, .int .i64 0, .int .i64 0, .bool false]) hb18⟩, (by kernel_rfl), trivial⟩ (k := ?_)
    have hf := idx_neg ph16
    exact ⟨by simp [findV, hf, GRow.zero], K⟩
  · have ph16 := of_decide_eq_false h16
    refine WC.skip ?_
    refine WX.seqN ?_
    refine WC.seq ?_
    refine WC.region ?_
    refine WL.op (d := 13) (.pointer (some ⟨b1, 0, none⟩)) (k := ?_)
    refine WL.load (v := .slice A xs.length cp) (ld1 (T := 22) (i := 0) hb4) (k := ?_)
    refine WL.op (d := 15) (.int .i64 (idxR xs x)) (k := ?_)
    obtain ⟨b20, o21, r22, hr23, hA24, he25⟩ := SlAt.at hA (i := idxR xs x) (by omega) (by omega)
    refine WL.rw (t := 14) (v := .slice (some ⟨b20, o21, none⟩) xs.length cp) (congrArg (fun a => Value.slice a xs.length cp) hA24) (k := ?_)
    refine WL.idx (T := 22) (E := 53) (m := 6) (b := b20) (o := o21) (len := xs.length) (cap := cp) (i := idxR xs x) (kk := .i64) (d := 16) (by omega) (by omega) (k := ?_)
    refine WL.rw (t := 14) (v := .slice A xs.length cp) (congrArg (fun a => Value.slice a xs.length cp) (Eq.symm hA24)) (k := ?_)
    refine WL.load (v := GRow.val r22) ((he25.adds K).ldW (T := 53)) (k := ?_)
    refine WL.store (v := GRow.val r22) (i := 0) (cs' := (Value.cells (GRow.val r22))) hb10 (k := fun w26 hb27 k28 => ?_)
    replace hb4 := k28.heap hb4 n13
    replace K := K.trans' k28 (fun i hi e => absurd (e ▸ hi) (Nat.not_lt.2 z12))
    clear hb10
    refine WL.op (d := 5) (.bool true) (k := ?_)
    refine WL.nil ?_
    refine WX.seqN ?_
    refine WC.ret ?_
    refine WX.ret (rs := [.cell 4 53, .tmp 5]) [GRow.val r22, .bool true] (.tuple #[GRow.val r22, .bool true]) ⟨⟨_, (by kernel_rfl), ldN (T := 53) (i := 0) (m := 6) (l := (Value.cells (GRow.val r22)).toList) hb27⟩, (by kernel_rfl), trivial⟩ (k := ?_)
    have hf := idx_get ph16 hr23
    exact ⟨by simp [findV, hf], K⟩

end Go.Proofs.Ytpkcohhfkeinmaa
