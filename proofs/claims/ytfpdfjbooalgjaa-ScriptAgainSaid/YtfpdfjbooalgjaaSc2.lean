/- Commands: what may be; whether two are the same. -/
import Derived.Test.YtfpdfjbooalgjaaSc0
import Derived.Test.YtfpdfjbooalgjaaSy2
namespace Go.Proofs.Ytfpdfjbooalgjaa
open Go.RowKit
set_option linter.unusedVariables false
set_option linter.unusedSimpArgs false

set_option maxRecDepth 100000 in
theorem sEqualF_c {A B : Option Addr} {cp cq : Nat} {xs ys : List GFate} {w : World} (hA : SlAt fateC 2 50 A xs w) (hB : SlAt fateC 2 50 B ys w) (hn : xs.length ≤ 1000000000) (hm : ys.length ≤ 1000000000) : Calls Try.prog 27 #[.slice A xs.length cp, .slice B ys.length cq] w fun e w' => e = .returned (.bool (decide (xs = ys))) ∧ Adds w w' := by
  have K : Keeps (fun _ => False) w w := Keeps.refl _ w
  refine Calls.start Try.func27 rfl (by kernel_rfl) ?_
  refine WC.seq ?_
  refine WC.region ?_
  refine WL.op (d := 4) (.bool false) (k := ?_)
  refine WL.nil ?_
  refine WX.seqN ?_
  refine WC.seq ?_
  refine WC.seq ?_
  refine WC.region ?_
  refine WL.op (d := 6) (.slice A xs.length cp) (k := ?_)
  refine WL.op (d := 7) (.int .i64 (xs.length : Int)) (k := ?_)
  refine WL.op (d := 8) (.slice B ys.length cq) (k := ?_)
  refine WL.op (d := 9) (.int .i64 (ys.length : Int)) (k := ?_)
  refine WL.op (d := 10) (.bool ((xs.length : Int) != (ys.length : Int))) (k := ?_)
  refine WL.nil ?_
  refine WX.seqN ?_
  refine WC.cond (b := (xs.length : Int) != (ys.length : Int)) (ht := fun h1 => ?_) (hf := fun h1 => ?_)
  · have ph1 := bne_iff_ne.1 h1
    refine WC.seq ?_
    refine WC.region ?_
    refine WL.op (d := 4) (.bool false) (k := ?_)
    refine WL.nil ?_
    refine WX.seqN ?_
    refine WC.ret ?_
    refine WX.seqR ?_
    refine WX.ret (rs := [.tmp 4]) [.bool false] (.bool false) ⟨(by kernel_rfl), trivial⟩ (k := ?_)
    exact ⟨ret_bool (eqU_len (by omega)), K⟩
  · have ph1 := of_bne_false h1
    refine WC.skip ?_
    refine WX.seqN ?_
    refine WC.seq ?_
    refine WC.seq ?_
    refine WC.region ?_
    refine WL.op (d := 11) (.slice A xs.length cp) (k := ?_)
    refine WL.op (d := 12) (.int .i64 (xs.length : Int)) (k := ?_)
    refine WL.op (d := 13) (.int .i64 0) (k := ?_)
    refine WL.nil ?_
    refine WX.seqN ?_
    refine WC.block ?_
    refine WC.loop (ι := Int) (fun (i : Int) => [(0, .slice A xs.length cp), (1, .slice B ys.length cq), (6, .slice A xs.length cp), (7, .int .i64 (xs.length : Int)), (8, .slice B ys.length cq), (9, .int .i64 (ys.length : Int)), (10, .bool ((xs.length : Int) != (ys.length : Int))), (11, .slice A xs.length cp), (12, .int .i64 (xs.length : Int)), (13, .int .i64 i)]) (fun (i : Int) (w_ : World) => (Keeps (fun _ => False) w w_) ∧ (0 ≤ i) ∧ (i ≤ xs.length) ∧ (eqU xs ys i)) (fun (i : Int) => (xs.length - i).toNat) 0 ⟨(by kernel_rfl), (by kernel_rfl), (by kernel_rfl), (by kernel_rfl), (by kernel_rfl), (by kernel_rfl), (by kernel_rfl), (by kernel_rfl), (by kernel_rfl), (by kernel_rfl), trivial⟩ ⟨K, Int.le_refl 0, (by omega), eqU_zero _ _⟩ ?_
    rintro i w2 ⟨K, i0, i1, iu⟩
    refine WC.seq ?_
    refine WC.region ?_
    refine WL.op (d := 14) (.bool (decide (i < (xs.length : Int)))) (k := ?_)
    refine WL.nil ?_
    refine WX.seqN ?_
    refine WC.seq ?_
    refine WC.cond (b := decide (i < (xs.length : Int))) (ht := fun h3 => ?_) (hf := fun h3 => ?_)
    · have ph3 := of_decide_eq_true h3
      refine WC.skip ?_
      refine WX.seqN ?_
      refine WC.seq ?_
      refine WC.block ?_
      refine WC.seq ?_
      refine WC.region ?_
      refine WL.op (d := 15) (.int .i64 i) (k := ?_)
      refine WL.op (d := 5) (.int .i64 i) (k := ?_)
      refine WL.nil ?_
      refine WX.seqN ?_
      refine WC.seq ?_
      refine WC.quiet (k := ?_)
      refine WQ.op (d := 16) (.slice A xs.length cp) (k := ?_)
      refine WQ.op (d := 17) (.int .i64 i) (k := ?_)
      obtain ⟨b4, o5, r6, hr7, hA8, he9⟩ := SlAt.at hA (i := i) (by omega) (by omega)
      refine WQ.rw (t := 16) (v := .slice (some ⟨b4, o5, none⟩) xs.length cp) (congrArg (fun a => Value.slice a xs.length cp) hA8) (k := ?_)
      refine WQ.idx (T := 30) (E := 50) (m := 2) (b := b4) (o := o5) (len := xs.length) (cap := cp) (i := i) (kk := .i64) (d := 18) (by omega) (by omega) (k := ?_)
      refine WQ.rw (t := 16) (v := .slice A xs.length cp) (congrArg (fun a => Value.slice a xs.length cp) (Eq.symm hA8)) (k := ?_)
      refine WQ.load (v := GFate.val r6) (fun w_ k_ => ((he9.adds K).adds k_).ldW (T := 50)) (k := ?_)
      refine WQ.op (d := 20) (.slice B ys.length cq) (k := ?_)
      refine WQ.op (d := 21) (.int .i64 i) (k := ?_)
      obtain ⟨b10, o11, r12, hr13, hA14, he15⟩ := SlAt.at hB (i := i) (by omega) (by omega)
      refine WQ.rw (t := 20) (v := .slice (some ⟨b10, o11, none⟩) ys.length cq) (congrArg (fun a => Value.slice a ys.length cq) hA14) (k := ?_)
      refine WQ.idx (T := 30) (E := 50) (m := 2) (b := b10) (o := o11) (len := ys.length) (cap := cq) (i := i) (kk := .i64) (d := 22) (by omega) (by omega) (k := ?_)
      refine WQ.rw (t := 20) (v := .slice B ys.length cq) (congrArg (fun a => Value.slice a ys.length cq) (Eq.symm hA14)) (k := ?_)
      refine WQ.load (v := GFate.val r12) (fun w_ k_ => ((he15.adds K).adds k_).ldW (T := 50)) (k := ?_)
      refine WQ.bin (d := 24) (v := .bool (!(decide (r6 = r12)))) (fun w_ => neqFateV r6 r12 w_) (k := ?_)
      refine WQ.nilX (fun w16 k17 => ?_)
      replace K := K.trans (k17.any _)
      refine WX.seqN ?_
      refine WC.cond (b := !(decide (r6 = r12))) (ht := fun h18 => ?_) (hf := fun h18 => ?_)
      · have h19 : (decide (r6 = r12)) = false := Bool.not_inj (y := false) h18
        have ph19 := of_decide_eq_false h19
        refine WC.seq ?_
        refine WC.region ?_
        refine WL.op (d := 4) (.bool false) (k := ?_)
        refine WL.nil ?_
        refine WX.seqN ?_
        refine WC.ret ?_
        refine WX.blockR ?_
        refine WX.seqR ?_
        refine WX.seqR ?_
        refine WX.blockR ?_
        refine WX.seqR ?_
        refine WX.ret (rs := [.tmp 4]) [.bool false] (.bool false) ⟨(by kernel_rfl), trivial⟩ (k := ?_)
        exact ⟨ret_bool (eqU_bad hr7 hr13 ph19), K⟩
      · have h20 : (decide (r6 = r12)) = true := Bool.not_inj (y := true) h18
        have ph20 := of_decide_eq_true h20
        refine WC.skip ?_
        refine WX.blockN ?_
        refine WX.seqN ?_
        refine WC.region ?_
        refine WL.opE (d := 25) (.int .i64 (IntKind.i64.wrap (i + 1))) (v := .int .i64 (i + 1)) (congrArg (Value.int .i64) (IntWalk.i64_in _ (by omega))) (k := ?_)
        refine WL.op (d := 13) (.int .i64 (i + 1)) (k := ?_)
        refine WL.nil ?_
        refine WX.round (i + 1) (by show (xs.length - (i + 1)).toNat < (xs.length - i).toNat; omega) ⟨(by kernel_rfl), (by kernel_rfl), (by kernel_rfl), (by kernel_rfl), (by kernel_rfl), (by kernel_rfl), (by kernel_rfl), (by kernel_rfl), (by kernel_rfl), (by kernel_rfl), trivial⟩ ⟨K, (by omega), (by omega), (eqU_succ i0 iu hr7 hr13 ph20)⟩
    · have ph3 := of_decide_eq_false h3
      refine WC.exit ?_
      refine WX.seqE ?_
      refine WX.seqE ?_
      refine WX.blockE ?_
      refine WX.seqN ?_
      refine WC.seq ?_
      refine WC.region ?_
      refine WL.op (d := 4) (.bool true) (k := ?_)
      refine WL.nil ?_
      refine WX.seqN ?_
      refine WC.ret ?_
      refine WX.ret (rs := [.tmp 4]) [.bool true] (.bool true) ⟨(by kernel_rfl), trivial⟩ (k := ?_)
      exact ⟨ret_bool (eqU_end (i := i) (by omega) (by omega) iu), K⟩

set_option maxRecDepth 100000 in
theorem sWithin_c (x y : Int) (w : World) : Calls Try.prog 21 #[.int .i64 x, .int .i64 y] w fun e w' => e = .returned (.bool (decide (0 ≤ x ∧ x ≤ y))) ∧ Adds w w' := by
  have K : Keeps (fun _ => False) w w := Keeps.refl _ w
  refine Calls.start Try.func21 rfl (by kernel_rfl) ?_
  refine WC.seq ?_
  refine WC.region ?_
  refine WL.op (d := 4) (.bool false) (k := ?_)
  refine WL.nil ?_
  refine WX.seqN ?_
  refine WC.seq ?_
  refine WC.region ?_
  refine WL.op (d := 5) (.int .i64 x) (k := ?_)
  refine WL.op (d := 6) (.bool (decide (x ≥ 0))) (k := ?_)
  refine WL.op (d := 7) (.bool (decide (x ≥ 0))) (k := ?_)
  refine bsplit (decide (x ≥ 0)) (fun h1 => ?_) (fun h1 => ?_)
  · have ph1 := of_decide_eq_true h1
    refine WL.rw (t := 7) (v := .bool true) (congrArg Value.bool h1) (k := ?_)
    refine WL.op (d := 8) (.int .i64 x) (k := ?_)
    refine WL.op (d := 9) (.int .i64 y) (k := ?_)
    refine WL.op (d := 10) (.bool (decide (x ≤ y))) (k := ?_)
    refine WL.op (d := 11) (.bool (decide (x ≤ y))) (k := ?_)
    refine WL.op (d := 4) (.bool (decide (x ≤ y))) (k := ?_)
    refine WL.nil ?_
    refine WX.seqN ?_
    refine WC.ret ?_
    refine WX.ret (rs := [.tmp 4]) [.bool (decide (x ≤ y))] (.bool (decide (x ≤ y))) ⟨(by kernel_rfl), trivial⟩ (k := ?_)
    exact ⟨ret_bool (by rw [Bool.eq_iff_iff]; simp only [eq_self, decide_eq_true_eq, Bool.false_eq_true, Bool.true_eq_false, false_iff, true_iff, iff_true, iff_false, Bool.not_eq_true', decide_eq_false_iff_not, GFate.ok]; omega), K⟩
  · have ph1 := of_decide_eq_false h1
    refine WL.rw (t := 7) (v := .bool false) (congrArg Value.bool h1) (k := ?_)
    refine WL.skip (d := 8) (k := ?_)
    refine WL.skip (d := 9) (k := ?_)
    refine WL.skip (d := 10) (k := ?_)
    refine WL.op (d := 11) (.bool false) (k := ?_)
    refine WL.op (d := 4) (.bool false) (k := ?_)
    refine WL.nil ?_
    refine WX.seqN ?_
    refine WC.ret ?_
    refine WX.ret (rs := [.tmp 4]) [.bool false] (.bool false) ⟨(by kernel_rfl), trivial⟩ (k := ?_)
    exact ⟨ret_bool (by rw [Bool.eq_iff_iff]; simp only [eq_self, decide_eq_true_eq, Bool.false_eq_true, Bool.true_eq_false, false_iff, true_iff, iff_true, iff_false, Bool.not_eq_true', decide_eq_false_iff_not, GFate.ok]; omega), K⟩

set_option maxRecDepth 100000 in
theorem sCheck1_c (f : GFate) (w : World) : Calls Try.prog 20 #[f.val] w fun e w' => e = .returned (.bool (!(decide f.ok))) ∧ Adds w w' := by
  have K : Keeps (fun _ => False) w w := Keeps.refl _ w
  refine Calls.start Try.func20 rfl (by kernel_rfl) ?_
  refine WC.seq ?_
  refine WC.region ?_
  refine WL.new (d := 1) (T := 50) (Value.cells (GFate.val f)) (k := fun b1 w2 g3 hb4 k5 => ?_)
  have z6 := Nat.le_trans K.size g3
  replace K := K.trans (k5.any _)
  refine WL.op (d := 2) (.bool false) (k := ?_)
  refine WL.nil ?_
  refine WX.seqN ?_
  refine WC.seq ?_
  refine WC.region ?_
  refine WL.op (d := 3) (.pointer (some ⟨b1, 0, none⟩)) (k := ?_)
  refine WL.load (v := .int .i64 f.kind) (ld1 (T := 3) (i := 0) hb4) (k := ?_)
  refine WL.callG (d := 5) (f := 21) (args := #[.int .i64 f.kind, .int .i64 2]) (sWithin_c f.kind 2 w2) (k := fun e_ w7 h_ => ⟨.bool (decide (0 ≤ f.kind ∧ f.kind ≤ 2)), h_.1, ?_⟩)
  have k8 := h_.2; clear h_
  replace hb4 := k8.heap hb4 id
  replace K := K.trans (k8.any _)
  refine WL.op (d := 6) (.bool (!(decide (0 ≤ f.kind ∧ f.kind ≤ 2)))) (k := ?_)
  refine WL.op (d := 7) (.bool (!(decide (0 ≤ f.kind ∧ f.kind ≤ 2)))) (k := ?_)
  refine bsplit (!(decide (0 ≤ f.kind ∧ f.kind ≤ 2))) (fun h9 => ?_) (fun h9 => ?_)
  · have h10 : (decide (0 ≤ f.kind ∧ f.kind ≤ 2)) = false := Bool.not_inj (y := false) h9
    have ph10 := of_decide_eq_false h10
    refine WL.rw (t := 7) (v := .bool true) (congrArg Value.bool h9) (k := ?_)
    refine WL.skip (d := 8) (k := ?_)
    refine WL.skip (d := 9) (k := ?_)
    refine WL.skip (d := 10) (k := ?_)
    refine WL.skip (d := 11) (k := ?_)
    refine WL.op (d := 12) (.bool true) (k := ?_)
    refine WL.op (d := 2) (.bool true) (k := ?_)
    refine WL.nil ?_
    refine WX.seqN ?_
    refine WC.ret ?_
    refine WX.ret (rs := [.tmp 2]) [.bool true] (.bool true) ⟨(by kernel_rfl), trivial⟩ (k := ?_)
    exact ⟨ret_bool (wrong_t (fun k => by simp only [GFate.ok] at k; omega)), K⟩
  · have h11 : (decide (0 ≤ f.kind ∧ f.kind ≤ 2)) = true := Bool.not_inj (y := true) h9
    have ph11 := of_decide_eq_true h11
    refine WL.rw (t := 7) (v := .bool false) (congrArg Value.bool h9) (k := ?_)
    refine WL.op (d := 8) (.pointer (some ⟨b1, 1, none⟩)) (k := ?_)
    refine WL.load (v := .int .i64 f.at_) (ld1 (T := 3) (i := 1) hb4) (k := ?_)
    refine WL.callG (d := 10) (f := 21) (args := #[.int .i64 f.at_, .int .i64 64]) (sWithin_c f.at_ 64 w7) (k := fun e_ w12 h_ => ⟨.bool (decide (0 ≤ f.at_ ∧ f.at_ ≤ 64)), h_.1, ?_⟩)
    have k13 := h_.2; clear h_
    replace hb4 := k13.heap hb4 id
    replace K := K.trans (k13.any _)
    refine WL.op (d := 11) (.bool (!(decide (0 ≤ f.at_ ∧ f.at_ ≤ 64)))) (k := ?_)
    refine WL.op (d := 12) (.bool (!(decide (0 ≤ f.at_ ∧ f.at_ ≤ 64)))) (k := ?_)
    refine WL.op (d := 2) (.bool (!(decide (0 ≤ f.at_ ∧ f.at_ ≤ 64)))) (k := ?_)
    refine WL.nil ?_
    refine WX.seqN ?_
    refine WC.ret ?_
    refine WX.ret (rs := [.tmp 2]) [.bool (!(decide (0 ≤ f.at_ ∧ f.at_ ≤ 64)))] (.bool (!(decide (0 ≤ f.at_ ∧ f.at_ ≤ 64)))) ⟨(by kernel_rfl), trivial⟩ (k := ?_)
    exact ⟨ret_bool (wrong_e (by omega)), K⟩

set_option maxRecDepth 100000 in
theorem sIdxF_c {A : Option Addr} {cp : Nat} {xs : List GFate} {w : World} (hA : SlAt fateC 2 50 A xs w) (hn : xs.length ≤ 1000000000) : Calls Try.prog 38 #[.slice A xs.length cp, .func (.func 20) #[] #[]] w fun e w' => ∃ x : Int, e = .returned (.int .i64 x) ∧ decide (x ≥ 0) = !(okFs xs) ∧ Adds w w' := by
  have K : Keeps (fun _ => False) w w := Keeps.refl _ w
  refine Calls.start Try.func38 rfl (by kernel_rfl) ?_
  refine WC.seq ?_
  refine WC.region ?_
  refine WL.op (d := 4) (.int .i64 0) (k := ?_)
  refine WL.nil ?_
  refine WX.seqN ?_
  refine WC.seq ?_
  refine WC.seq ?_
  refine WC.region ?_
  refine WL.op (d := 6) (.slice A xs.length cp) (k := ?_)
  refine WL.op (d := 7) (.int .i64 (xs.length : Int)) (k := ?_)
  refine WL.op (d := 8) (.int .i64 0) (k := ?_)
  refine WL.nil ?_
  refine WX.seqN ?_
  refine WC.block ?_
  refine WC.loop (ι := Int) (fun (i : Int) => [(0, .slice A xs.length cp), (1, .func (.func 20) #[] #[]), (6, .slice A xs.length cp), (7, .int .i64 (xs.length : Int)), (8, .int .i64 i)]) (fun (i : Int) (w_ : World) => (Keeps (fun _ => False) w w_) ∧ (0 ≤ i) ∧ (i ≤ xs.length) ∧ (upF xs i)) (fun (i : Int) => (xs.length - i).toNat) 0 ⟨(by kernel_rfl), (by kernel_rfl), (by kernel_rfl), (by kernel_rfl), (by kernel_rfl), trivial⟩ ⟨K, Int.le_refl 0, (by omega), upF_zero _⟩ ?_
  rintro i w1 ⟨K, i0, i1, iu⟩
  refine WC.seq ?_
  refine WC.region ?_
  refine WL.op (d := 9) (.bool (decide (i < (xs.length : Int)))) (k := ?_)
  refine WL.nil ?_
  refine WX.seqN ?_
  refine WC.seq ?_
  refine WC.cond (b := decide (i < (xs.length : Int))) (ht := fun h2 => ?_) (hf := fun h2 => ?_)
  · have ph2 := of_decide_eq_true h2
    refine WC.skip ?_
    refine WX.seqN ?_
    refine WC.seq ?_
    refine WC.block ?_
    refine WC.seq ?_
    refine WC.region ?_
    refine WL.op (d := 10) (.int .i64 i) (k := ?_)
    refine WL.op (d := 5) (.int .i64 i) (k := ?_)
    refine WL.nil ?_
    refine WX.seqN ?_
    refine WC.seq ?_
    refine WC.region ?_
    refine WL.op (d := 11) (.func (.func 20) #[] #[]) (k := ?_)
    refine WL.op (d := 12) (.slice A xs.length cp) (k := ?_)
    refine WL.op (d := 13) (.int .i64 i) (k := ?_)
    obtain ⟨b3, o4, r5, hr6, hA7, he8⟩ := SlAt.at hA (i := i) (by omega) (by omega)
    refine WL.rw (t := 12) (v := .slice (some ⟨b3, o4, none⟩) xs.length cp) (congrArg (fun a => Value.slice a xs.length cp) hA7) (k := ?_)
    refine WL.idx (T := 30) (E := 50) (m := 2) (b := b3) (o := o4) (len := xs.length) (cap := cp) (i := i) (kk := .i64) (d := 14) (by omega) (by omega) (k := ?_)
    refine WL.rw (t := 12) (v := .slice A xs.length cp) (congrArg (fun a => Value.slice a xs.length cp) (Eq.symm hA7)) (k := ?_)
    refine WL.load (v := GFate.val r5) ((he8.adds K).ldW (T := 50)) (k := ?_)
    refine WL.callG (d := 16) (f := 20) (args := #[GFate.val r5]) (sCheck1_c r5 w1) (k := fun e_ w9 h_ => ⟨.bool (!(decide (GFate.ok r5))), h_.1, ?_⟩)
    have k10 := h_.2; clear h_
    replace K := K.trans (k10.any _)
    refine WL.nil ?_
    refine WX.seqN ?_
    refine WC.cond (b := !(decide (GFate.ok r5))) (ht := fun h11 => ?_) (hf := fun h11 => ?_)
    · have h12 : (decide (GFate.ok r5)) = false := Bool.not_inj (y := false) h11
      have ph12 := of_decide_eq_false h12
      refine WC.seq ?_
      refine WC.region ?_
      refine WL.op (d := 17) (.int .i64 i) (k := ?_)
      refine WL.op (d := 4) (.int .i64 i) (k := ?_)
      refine WL.nil ?_
      refine WX.seqN ?_
      refine WC.ret ?_
      refine WX.blockR ?_
      refine WX.seqR ?_
      refine WX.seqR ?_
      refine WX.blockR ?_
      refine WX.seqR ?_
      refine WX.ret (rs := [.tmp 4]) [.int .i64 i] (.int .i64 i) ⟨(by kernel_rfl), trivial⟩ (k := ?_)
      exact ⟨_, rfl, (by rw [okFs_bad hr6 ph12]; simpa using i0), K⟩
    · have h13 : (decide (GFate.ok r5)) = true := Bool.not_inj (y := true) h11
      have ph13 := of_decide_eq_true h13
      refine WC.skip ?_
      refine WX.blockN ?_
      refine WX.seqN ?_
      refine WC.region ?_
      refine WL.opE (d := 18) (.int .i64 (IntKind.i64.wrap (i + 1))) (v := .int .i64 (i + 1)) (congrArg (Value.int .i64) (IntWalk.i64_in _ (by omega))) (k := ?_)
      refine WL.op (d := 8) (.int .i64 (i + 1)) (k := ?_)
      refine WL.nil ?_
      refine WX.round (i + 1) (by show (xs.length - (i + 1)).toNat < (xs.length - i).toNat; omega) ⟨(by kernel_rfl), (by kernel_rfl), (by kernel_rfl), (by kernel_rfl), (by kernel_rfl), trivial⟩ ⟨K, (by omega), (by omega), (upF_succ i0 iu hr6 ph13)⟩
  · have ph2 := of_decide_eq_false h2
    refine WC.exit ?_
    refine WX.seqE ?_
    refine WX.seqE ?_
    refine WX.blockE ?_
    refine WX.seqN ?_
    refine WC.seq ?_
    refine WC.region ?_
    refine WL.op (d := 4) (.int .i64 (-1)) (k := ?_)
    refine WL.nil ?_
    refine WX.seqN ?_
    refine WC.ret ?_
    refine WX.ret (rs := [.tmp 4]) [.int .i64 (-1)] (.int .i64 (-1)) ⟨(by kernel_rfl), trivial⟩ (k := ?_)
    exact ⟨_, rfl, (by rw [okFs_end (i := i) (by omega) iu]; rfl), K⟩

set_option maxRecDepth 100000 in
theorem sContF_c {A : Option Addr} {cp : Nat} {xs : List GFate} {w : World} (hA : SlAt fateC 2 50 A xs w) (hn : xs.length ≤ 1000000000) : Calls Try.prog 24 #[.slice A xs.length cp, .func (.func 20) #[] #[]] w fun e w' => e = .returned (.bool (!(okFs xs))) ∧ Adds w w' := by
  have K : Keeps (fun _ => False) w w := Keeps.refl _ w
  refine Calls.start Try.func24 rfl (by kernel_rfl) ?_
  refine WC.seq ?_
  refine WC.region ?_
  refine WL.op (d := 4) (.bool false) (k := ?_)
  refine WL.nil ?_
  refine WX.seqN ?_
  refine WC.seq ?_
  refine WC.region ?_
  refine WL.op (d := 5) (.slice A xs.length cp) (k := ?_)
  refine WL.op (d := 6) (.func (.func 20) #[] #[]) (k := ?_)
  refine WL.callG (d := 7) (f := 38) (args := #[.slice A xs.length cp, .func (.func 20) #[] #[]]) (sIdxF_c (cp := cp) (hA.adds K) (by omega)) (k := fun e_ w1 h_ => ?_)
  obtain ⟨x2, rfl, hx3, k4⟩ := h_
  refine ⟨_, rfl, ?_⟩
  replace K := K.trans (k4.any _)
  refine WL.op (d := 8) (.bool (decide (x2 ≥ 0))) (k := ?_)
  refine WL.op (d := 4) (.bool (decide (x2 ≥ 0))) (k := ?_)
  refine WL.nil ?_
  refine WX.seqN ?_
  refine WC.ret ?_
  refine WX.ret (rs := [.tmp 4]) [.bool (decide (x2 ≥ 0))] (.bool (decide (x2 ≥ 0))) ⟨(by kernel_rfl), trivial⟩ (k := ?_)
  exact ⟨ret_bool hx3, K⟩

set_option maxRecDepth 100000 in
set_option maxHeartbeats 4000000 in
theorem sSame_c {x y : GCmd} {w : World} (ha : SlAt fateC 2 50 x.A x.p.fs w) (hb : SlAt fateC 2 50 y.A y.p.fs w) (la : x.p.fs.length ≤ 1000000000) (lb : y.p.fs.length ≤ 1000000000) : Calls Try.prog 11 #[x.val, y.val] w fun e w' => e = .returned (.bool (decide (x.p = y.p))) ∧ Adds w w' := by
  have K : Keeps (fun _ => False) w w := Keeps.refl _ w
  refine Calls.start Try.func11 rfl (by kernel_rfl) ?_
  refine WC.seq ?_
  refine WC.region ?_
  refine WL.new (d := 2) (T := 32) (Value.cells (GCmd.val x)) (k := fun b1 w2 g3 hb4 k5 => ?_)
  have z6 := Nat.le_trans K.size g3
  replace K := K.trans (k5.any _)
  refine WL.new (d := 3) (T := 32) (Value.cells (GCmd.val y)) (k := fun b7 w8 g9 hb10 k11 => ?_)
  have z12 := Nat.le_trans K.size g9
  have n13 : b1 ≠ b7 := Nat.ne_of_lt (Nat.lt_of_lt_of_le (lt_of_heap hb4) g9)
  replace hb4 := k11.heap hb4 id
  replace K := K.trans (k11.any _)
  refine WL.op (d := 4) (.bool false) (k := ?_)
  refine WL.nil ?_
  refine WX.seqN ?_
  refine WC.seq ?_
  refine WC.region ?_
  refine WL.op (d := 5) (.pointer (some ⟨b1, 0, none⟩)) (k := ?_)
  refine WL.load (v := .int .i64 x.p.kind) (ld1 (T := 3) (i := 0) hb4) (k := ?_)
  refine WL.op (d := 7) (.pointer (some ⟨b7, 0, none⟩)) (k := ?_)
  refine WL.load (v := .int .i64 y.p.kind) (ld1 (T := 3) (i := 0) hb10) (k := ?_)
  refine WL.op (d := 9) (.bool (x.p.kind == y.p.kind)) (k := ?_)
  refine WL.op (d := 10) (.bool (x.p.kind == y.p.kind)) (k := ?_)
  refine bsplit (x.p.kind == y.p.kind) (fun h14 => ?_) (fun h14 => ?_)
  · have ph14 := eq_of_beq h14
    refine WL.rw (t := 10) (v := .bool true) (congrArg Value.bool h14) (k := ?_)
    refine WL.op (d := 11) (.pointer (some ⟨b1, 1, none⟩)) (k := ?_)
    refine WL.load (v := GOp.val x.p.op) (ldN (T := 29) (i := 1) (m := 10) (l := (Value.cells (GOp.val x.p.op)).toList) hb4) (k := ?_)
    refine WL.op (d := 13) (.pointer (some ⟨b7, 1, none⟩)) (k := ?_)
    refine WL.load (v := GOp.val y.p.op) (ldN (T := 29) (i := 1) (m := 10) (l := (Value.cells (GOp.val y.p.op)).toList) hb10) (k := ?_)
    refine WL.bin (d := 15) (v := .bool (GOp.same x.p.op y.p.op)) (eqOpV x.p.op y.p.op _) (k := ?_)
    refine WL.op (d := 16) (.bool (GOp.same x.p.op y.p.op)) (k := ?_)
    refine WL.op (d := 17) (.bool (GOp.same x.p.op y.p.op)) (k := ?_)
    refine bsplit (GOp.same x.p.op y.p.op) (fun h15 => ?_) (fun h15 => ?_)
    · have ph15 := same_true h15
      refine WL.rw (t := 17) (v := .bool true) (congrArg Value.bool h15) (k := ?_)
      refine WL.op (d := 18) (.pointer (some ⟨b1, 11, none⟩)) (k := ?_)
      refine WL.load (v := .int .i64 x.p.id) (ld1 (T := 3) (i := 11) hb4) (k := ?_)
      refine WL.op (d := 20) (.pointer (some ⟨b7, 11, none⟩)) (k := ?_)
      refine WL.load (v := .int .i64 y.p.id) (ld1 (T := 3) (i := 11) hb10) (k := ?_)
      refine WL.op (d := 22) (.bool (x.p.id == y.p.id)) (k := ?_)
      refine WL.op (d := 23) (.bool (x.p.id == y.p.id)) (k := ?_)
      refine WL.op (d := 24) (.bool (x.p.id == y.p.id)) (k := ?_)
      refine bsplit (x.p.id == y.p.id) (fun h16 => ?_) (fun h16 => ?_)
      · have ph16 := eq_of_beq h16
        refine WL.rw (t := 24) (v := .bool true) (congrArg Value.bool h16) (k := ?_)
        refine WL.op (d := 25) (.pointer (some ⟨b1, 12, none⟩)) (k := ?_)
        refine WL.load (v := .int .i64 x.p.work) (ld1 (T := 2) (i := 12) hb4) (k := ?_)
        refine WL.op (d := 27) (.pointer (some ⟨b7, 12, none⟩)) (k := ?_)
        refine WL.load (v := .int .i64 y.p.work) (ld1 (T := 2) (i := 12) hb10) (k := ?_)
        refine WL.op (d := 29) (.bool (x.p.work == y.p.work)) (k := ?_)
        refine WL.op (d := 30) (.bool (x.p.work == y.p.work)) (k := ?_)
        refine WL.op (d := 31) (.bool (x.p.work == y.p.work)) (k := ?_)
        refine bsplit (x.p.work == y.p.work) (fun h17 => ?_) (fun h17 => ?_)
        · have ph17 := eq_of_beq h17
          refine WL.rw (t := 31) (v := .bool true) (congrArg Value.bool h17) (k := ?_)
          refine WL.op (d := 32) (.pointer (some ⟨b1, 13, none⟩)) (k := ?_)
          refine WL.load (v := .int .i64 x.p.n) (ld1 (T := 3) (i := 13) hb4) (k := ?_)
          refine WL.op (d := 34) (.pointer (some ⟨b7, 13, none⟩)) (k := ?_)
          refine WL.load (v := .int .i64 y.p.n) (ld1 (T := 3) (i := 13) hb10) (k := ?_)
          refine WL.op (d := 36) (.bool (x.p.n == y.p.n)) (k := ?_)
          refine WL.op (d := 37) (.bool (x.p.n == y.p.n)) (k := ?_)
          refine WL.op (d := 38) (.bool (x.p.n == y.p.n)) (k := ?_)
          refine bsplit (x.p.n == y.p.n) (fun h18 => ?_) (fun h18 => ?_)
          · have ph18 := eq_of_beq h18
            refine WL.rw (t := 38) (v := .bool true) (congrArg Value.bool h18) (k := ?_)
            refine WL.op (d := 39) (.pointer (some ⟨b1, 14, none⟩)) (k := ?_)
            refine WL.load (v := .slice x.A x.p.fs.length x.cap) (ld1 (T := 30) (i := 14) hb4) (k := ?_)
            refine WL.op (d := 41) (.pointer (some ⟨b7, 14, none⟩)) (k := ?_)
            refine WL.load (v := .slice y.A y.p.fs.length y.cap) (ld1 (T := 30) (i := 14) hb10) (k := ?_)
            refine WL.callG (d := 43) (f := 27) (args := #[.slice x.A x.p.fs.length x.cap, .slice y.A y.p.fs.length y.cap]) (sEqualF_c (cp := x.cap) (cq := y.cap) (ha.adds K) (hb.adds K) (by first | omega | (simp; omega)) (by first | omega | (simp; omega))) (k := fun e_ w19 h_ => ⟨.bool (decide (x.p.fs = y.p.fs)), h_.1, ?_⟩)
            have k20 := h_.2; clear h_
            replace hb4 := k20.heap hb4 id
            replace hb10 := k20.heap hb10 id
            replace K := K.trans (k20.any _)
            refine WL.op (d := 44) (.bool (decide (x.p.fs = y.p.fs))) (k := ?_)
            refine WL.op (d := 4) (.bool (decide (x.p.fs = y.p.fs))) (k := ?_)
            refine WL.nil ?_
            refine WX.seqN ?_
            refine WC.ret ?_
            refine WX.ret (rs := [.tmp 4]) [.bool (decide (x.p.fs = y.p.fs))] (.bool (decide (x.p.fs = y.p.fs))) ⟨(by kernel_rfl), trivial⟩ (k := ?_)
            exact ⟨ret_bool (same_fin ph14 h15 ph16 ph17 ph18), K⟩
          · have ph18 := ne_of_beq_false h18
            refine WL.rw (t := 38) (v := .bool false) (congrArg Value.bool h18) (k := ?_)
            refine WL.skip (d := 39) (k := ?_)
            refine WL.skip (d := 40) (k := ?_)
            refine WL.skip (d := 41) (k := ?_)
            refine WL.skip (d := 42) (k := ?_)
            refine WL.skip (d := 43) (k := ?_)
            refine WL.op (d := 44) (.bool false) (k := ?_)
            refine WL.op (d := 4) (.bool false) (k := ?_)
            refine WL.nil ?_
            refine WX.seqN ?_
            refine WC.ret ?_
            refine WX.ret (rs := [.tmp 4]) [.bool false] (.bool false) ⟨(by kernel_rfl), trivial⟩ (k := ?_)
            exact ⟨ret_bool (same_ne fun e => ph18 (congrArg PCmd.n e)), K⟩
        · have ph17 := ne_of_beq_false h17
          refine WL.rw (t := 31) (v := .bool false) (congrArg Value.bool h17) (k := ?_)
          refine WL.skip (d := 32) (k := ?_)
          refine WL.skip (d := 33) (k := ?_)
          refine WL.skip (d := 34) (k := ?_)
          refine WL.skip (d := 35) (k := ?_)
          refine WL.skip (d := 36) (k := ?_)
          refine WL.op (d := 37) (.bool false) (k := ?_)
          refine WL.op (d := 38) (.bool false) (k := ?_)
          refine WL.skip (d := 39) (k := ?_)
          refine WL.skip (d := 40) (k := ?_)
          refine WL.skip (d := 41) (k := ?_)
          refine WL.skip (d := 42) (k := ?_)
          refine WL.skip (d := 43) (k := ?_)
          refine WL.op (d := 44) (.bool false) (k := ?_)
          refine WL.op (d := 4) (.bool false) (k := ?_)
          refine WL.nil ?_
          refine WX.seqN ?_
          refine WC.ret ?_
          refine WX.ret (rs := [.tmp 4]) [.bool false] (.bool false) ⟨(by kernel_rfl), trivial⟩ (k := ?_)
          exact ⟨ret_bool (same_ne fun e => ph17 (congrArg PCmd.work e)), K⟩
      · have ph16 := ne_of_beq_false h16
        refine WL.rw (t := 24) (v := .bool false) (congrArg Value.bool h16) (k := ?_)
        refine WL.skip (d := 25) (k := ?_)
        refine WL.skip (d := 26) (k := ?_)
        refine WL.skip (d := 27) (k := ?_)
        refine WL.skip (d := 28) (k := ?_)
        refine WL.skip (d := 29) (k := ?_)
        refine WL.op (d := 30) (.bool false) (k := ?_)
        refine WL.op (d := 31) (.bool false) (k := ?_)
        refine WL.skip (d := 32) (k := ?_)
        refine WL.skip (d := 33) (k := ?_)
        refine WL.skip (d := 34) (k := ?_)
        refine WL.skip (d := 35) (k := ?_)
        refine WL.skip (d := 36) (k := ?_)
        refine WL.op (d := 37) (.bool false) (k := ?_)
        refine WL.op (d := 38) (.bool false) (k := ?_)
        refine WL.skip (d := 39) (k := ?_)
        refine WL.skip (d := 40) (k := ?_)
        refine WL.skip (d := 41) (k := ?_)
        refine WL.skip (d := 42) (k := ?_)
        refine WL.skip (d := 43) (k := ?_)
        refine WL.op (d := 44) (.bool false) (k := ?_)
        refine WL.op (d := 4) (.bool false) (k := ?_)
        refine WL.nil ?_
        refine WX.seqN ?_
        refine WC.ret ?_
        refine WX.ret (rs := [.tmp 4]) [.bool false] (.bool false) ⟨(by kernel_rfl), trivial⟩ (k := ?_)
        exact ⟨ret_bool (same_ne fun e => ph16 (congrArg PCmd.id e)), K⟩
    · have ph15 := same_false h15
      refine WL.rw (t := 17) (v := .bool false) (congrArg Value.bool h15) (k := ?_)
      refine WL.skip (d := 18) (k := ?_)
      refine WL.skip (d := 19) (k := ?_)
      refine WL.skip (d := 20) (k := ?_)
      refine WL.skip (d := 21) (k := ?_)
      refine WL.skip (d := 22) (k := ?_)
      refine WL.op (d := 23) (.bool false) (k := ?_)
      refine WL.op (d := 24) (.bool false) (k := ?_)
      refine WL.skip (d := 25) (k := ?_)
      refine WL.skip (d := 26) (k := ?_)
      refine WL.skip (d := 27) (k := ?_)
      refine WL.skip (d := 28) (k := ?_)
      refine WL.skip (d := 29) (k := ?_)
      refine WL.op (d := 30) (.bool false) (k := ?_)
      refine WL.op (d := 31) (.bool false) (k := ?_)
      refine WL.skip (d := 32) (k := ?_)
      refine WL.skip (d := 33) (k := ?_)
      refine WL.skip (d := 34) (k := ?_)
      refine WL.skip (d := 35) (k := ?_)
      refine WL.skip (d := 36) (k := ?_)
      refine WL.op (d := 37) (.bool false) (k := ?_)
      refine WL.op (d := 38) (.bool false) (k := ?_)
      refine WL.skip (d := 39) (k := ?_)
      refine WL.skip (d := 40) (k := ?_)
      refine WL.skip (d := 41) (k := ?_)
      refine WL.skip (d := 42) (k := ?_)
      refine WL.skip (d := 43) (k := ?_)
      refine WL.op (d := 44) (.bool false) (k := ?_)
      refine WL.op (d := 4) (.bool false) (k := ?_)
      refine WL.nil ?_
      refine WX.seqN ?_
      refine WC.ret ?_
      refine WX.ret (rs := [.tmp 4]) [.bool false] (.bool false) ⟨(by kernel_rfl), trivial⟩ (k := ?_)
      exact ⟨ret_bool (same_op h15), K⟩
  · have ph14 := ne_of_beq_false h14
    refine WL.rw (t := 10) (v := .bool false) (congrArg Value.bool h14) (k := ?_)
    refine WL.skip (d := 11) (k := ?_)
    refine WL.skip (d := 12) (k := ?_)
    refine WL.skip (d := 13) (k := ?_)
    refine WL.skip (d := 14) (k := ?_)
    refine WL.skip (d := 15) (k := ?_)
    refine WL.op (d := 16) (.bool false) (k := ?_)
    refine WL.op (d := 17) (.bool false) (k := ?_)
    refine WL.skip (d := 18) (k := ?_)
    refine WL.skip (d := 19) (k := ?_)
    refine WL.skip (d := 20) (k := ?_)
    refine WL.skip (d := 21) (k := ?_)
    refine WL.skip (d := 22) (k := ?_)
    refine WL.op (d := 23) (.bool false) (k := ?_)
    refine WL.op (d := 24) (.bool false) (k := ?_)
    refine WL.skip (d := 25) (k := ?_)
    refine WL.skip (d := 26) (k := ?_)
    refine WL.skip (d := 27) (k := ?_)
    refine WL.skip (d := 28) (k := ?_)
    refine WL.skip (d := 29) (k := ?_)
    refine WL.op (d := 30) (.bool false) (k := ?_)
    refine WL.op (d := 31) (.bool false) (k := ?_)
    refine WL.skip (d := 32) (k := ?_)
    refine WL.skip (d := 33) (k := ?_)
    refine WL.skip (d := 34) (k := ?_)
    refine WL.skip (d := 35) (k := ?_)
    refine WL.skip (d := 36) (k := ?_)
    refine WL.op (d := 37) (.bool false) (k := ?_)
    refine WL.op (d := 38) (.bool false) (k := ?_)
    refine WL.skip (d := 39) (k := ?_)
    refine WL.skip (d := 40) (k := ?_)
    refine WL.skip (d := 41) (k := ?_)
    refine WL.skip (d := 42) (k := ?_)
    refine WL.skip (d := 43) (k := ?_)
    refine WL.op (d := 44) (.bool false) (k := ?_)
    refine WL.op (d := 4) (.bool false) (k := ?_)
    refine WL.nil ?_
    refine WX.seqN ?_
    refine WC.ret ?_
    refine WX.ret (rs := [.tmp 4]) [.bool false] (.bool false) ⟨(by kernel_rfl), trivial⟩ (k := ?_)
    exact ⟨ret_bool (same_ne fun e => ph14 (congrArg PCmd.kind e)), K⟩

set_option maxRecDepth 100000 in
set_option maxHeartbeats 4000000 in
theorem u23Same_c {x y : GCmd} {w : World} (ha : SlAt fateC 2 50 x.A x.p.fs w) (hb : SlAt fateC 2 50 y.A y.p.fs w) (la : x.p.fs.length ≤ 1000000000) (lb : y.p.fs.length ≤ 1000000000) : Calls Try.prog 12 #[x.val, y.val] w fun e w' => e = .returned (.bool (decide (x.p = y.p))) ∧ Adds w w' := by
  have K : Keeps (fun _ => False) w w := Keeps.refl _ w
  refine Calls.start Try.func12 rfl (by kernel_rfl) ?_
  refine WC.seq ?_
  refine WC.region ?_
  refine WL.new (d := 2) (T := 32) (Value.cells (GCmd.val x)) (k := fun b1 w2 g3 hb4 k5 => ?_)
  have z6 := Nat.le_trans K.size g3
  replace K := K.trans (k5.any _)
  refine WL.new (d := 3) (T := 32) (Value.cells (GCmd.val y)) (k := fun b7 w8 g9 hb10 k11 => ?_)
  have z12 := Nat.le_trans K.size g9
  have n13 : b1 ≠ b7 := Nat.ne_of_lt (Nat.lt_of_lt_of_le (lt_of_heap hb4) g9)
  replace hb4 := k11.heap hb4 id
  replace K := K.trans (k11.any _)
  refine WL.op (d := 4) (.bool false) (k := ?_)
  refine WL.nil ?_
  refine WX.seqN ?_
  refine WC.seq ?_
  refine WC.seq ?_
  refine WC.region ?_
  refine WL.op (d := 6) (.pointer (some ⟨b1, 14, none⟩)) (k := ?_)
  refine WL.load (v := .slice x.A x.p.fs.length x.cap) (ld1 (T := 30) (i := 14) hb4) (k := ?_)
  refine WL.op (d := 8) (.int .i64 (x.p.fs.length : Int)) (k := ?_)
  refine WL.op (d := 9) (.pointer (some ⟨b7, 14, none⟩)) (k := ?_)
  refine WL.load (v := .slice y.A y.p.fs.length y.cap) (ld1 (T := 30) (i := 14) hb10) (k := ?_)
  refine WL.op (d := 11) (.int .i64 (y.p.fs.length : Int)) (k := ?_)
  refine WL.op (d := 12) (.bool ((x.p.fs.length : Int) != (y.p.fs.length : Int))) (k := ?_)
  refine WL.nil ?_
  refine WX.seqN ?_
  refine WC.cond (b := (x.p.fs.length : Int) != (y.p.fs.length : Int)) (ht := fun h14 => ?_) (hf := fun h14 => ?_)
  · have ph14 := bne_iff_ne.1 h14
    refine WC.seq ?_
    refine WC.region ?_
    refine WL.op (d := 4) (.bool false) (k := ?_)
    refine WL.nil ?_
    refine WX.seqN ?_
    refine WC.ret ?_
    refine WX.seqR ?_
    refine WX.ret (rs := [.tmp 4]) [.bool false] (.bool false) ⟨(by kernel_rfl), trivial⟩ (k := ?_)
    exact ⟨ret_bool (same_ne fun e => of_decide_eq_false (Eq.symm (eqU_len (xs := x.p.fs) (ys := y.p.fs) (by omega))) (congrArg PCmd.fs e)), K⟩
  · have ph14 := of_bne_false h14
    refine WC.skip ?_
    refine WX.seqN ?_
    refine WC.seq ?_
    refine WC.seq ?_
    refine WC.region ?_
    refine WL.op (d := 5) (.int .i64 0) (k := ?_)
    refine WL.nil ?_
    refine WX.seqN ?_
    refine WC.block ?_
    refine WC.loop (ι := Int) (fun (i : Int) => [(0, GCmd.val x), (1, GCmd.val y), (2, .pointer (some ⟨b1, 0, none⟩)), (3, .pointer (some ⟨b7, 0, none⟩)), (6, .pointer (some ⟨b1, 14, none⟩)), (7, .slice x.A x.p.fs.length x.cap), (8, .int .i64 (x.p.fs.length : Int)), (9, .pointer (some ⟨b7, 14, none⟩)), (10, .slice y.A y.p.fs.length y.cap), (11, .int .i64 (y.p.fs.length : Int)), (12, .bool ((x.p.fs.length : Int) != (y.p.fs.length : Int))), (5, .int .i64 i)]) (fun (i : Int) (w_ : World) => (Keeps (fun _ => False) w w_) ∧ (w_.heap[b1]? = some (.cells (Value.cells (GCmd.val x)) 32 (0, 0))) ∧ (w_.heap[b7]? = some (.cells (Value.cells (GCmd.val y)) 32 (0, 0))) ∧ (0 ≤ i) ∧ (i ≤ x.p.fs.length) ∧ (eqU x.p.fs y.p.fs i)) (fun (i : Int) => (x.p.fs.length - i).toNat) 0 ⟨(by kernel_rfl), (by kernel_rfl), (by kernel_rfl), (by kernel_rfl), (by kernel_rfl), (by kernel_rfl), (by kernel_rfl), (by kernel_rfl), (by kernel_rfl), (by kernel_rfl), (by kernel_rfl), (by kernel_rfl), trivial⟩ ⟨K, hb4, hb10, Int.le_refl 0, (by omega), eqU_zero _ _⟩ ?_
    rintro i w15 ⟨K, hb16, hb17, i0, i1, iu⟩
    refine WC.seq ?_
    refine WC.seq ?_
    refine WC.region ?_
    refine WL.op (d := 13) (.int .i64 i) (k := ?_)
    refine WL.op (d := 14) (.pointer (some ⟨b1, 14, none⟩)) (k := ?_)
    refine WL.load (v := .slice x.A x.p.fs.length x.cap) (ld1 (T := 30) (i := 14) hb16) (k := ?_)
    refine WL.op (d := 16) (.int .i64 (x.p.fs.length : Int)) (k := ?_)
    refine WL.op (d := 17) (.bool (decide (i < (x.p.fs.length : Int)))) (k := ?_)
    refine WL.nil ?_
    refine WX.seqN ?_
    refine WC.cond (b := decide (i < (x.p.fs.length : Int))) (ht := fun h18 => ?_) (hf := fun h18 => ?_)
    · have ph18 := of_decide_eq_true h18
      refine WC.skip ?_
      refine WX.seqN ?_
      refine WC.seq ?_
      refine WC.block ?_
      refine WC.seq ?_
      refine WC.quiet (k := ?_)
      refine WQ.op (d := 20) (.pointer (some ⟨b1, 14, none⟩)) (k := ?_)
      refine WQ.load (v := .slice x.A x.p.fs.length x.cap) (fun w_ k_ => ld1 (T := 30) (i := 14) (k_.heap hb16 id)) (k := ?_)
      refine WQ.op (d := 22) (.int .i64 i) (k := ?_)
      obtain ⟨b19, o20, r21, hr22, hA23, he24⟩ := SlAt.at ha (i := i) (by omega) (by omega)
      refine WQ.rw (t := 21) (v := .slice (some ⟨b19, o20, none⟩) x.p.fs.length x.cap) (congrArg (fun a => Value.slice a x.p.fs.length x.cap) hA23) (k := ?_)
      refine WQ.idx (T := 30) (E := 50) (m := 2) (b := b19) (o := o20) (len := x.p.fs.length) (cap := x.cap) (i := i) (kk := .i64) (d := 23) (by omega) (by omega) (k := ?_)
      refine WQ.rw (t := 21) (v := .slice x.A x.p.fs.length x.cap) (congrArg (fun a => Value.slice a x.p.fs.length x.cap) (Eq.symm hA23)) (k := ?_)
      refine WQ.load (v := GFate.val r21) (fun w_ k_ => ((he24.adds K).adds k_).ldW (T := 50)) (k := ?_)
      refine WQ.op (d := 25) (.pointer (some ⟨b7, 14, none⟩)) (k := ?_)
      refine WQ.load (v := .slice y.A y.p.fs.length y.cap) (fun w_ k_ => ld1 (T := 30) (i := 14) (k_.heap hb17 id)) (k := ?_)
      refine WQ.op (d := 27) (.int .i64 i) (k := ?_)
      obtain ⟨b25, o26, r27, hr28, hA29, he30⟩ := SlAt.at hb (i := i) (by omega) (by omega)
      refine WQ.rw (t := 26) (v := .slice (some ⟨b25, o26, none⟩) y.p.fs.length y.cap) (congrArg (fun a => Value.slice a y.p.fs.length y.cap) hA29) (k := ?_)
      refine WQ.idx (T := 30) (E := 50) (m := 2) (b := b25) (o := o26) (len := y.p.fs.length) (cap := y.cap) (i := i) (kk := .i64) (d := 28) (by omega) (by omega) (k := ?_)
      refine WQ.rw (t := 26) (v := .slice y.A y.p.fs.length y.cap) (congrArg (fun a => Value.slice a y.p.fs.length y.cap) (Eq.symm hA29)) (k := ?_)
      refine WQ.load (v := GFate.val r27) (fun w_ k_ => ((he30.adds K).adds k_).ldW (T := 50)) (k := ?_)
      refine WQ.bin (d := 30) (v := .bool (!(decide (r21 = r27)))) (fun w_ => neqFateV r21 r27 w_) (k := ?_)
      refine WQ.nilX (fun w31 k32 => ?_)
      replace hb16 := k32.heap hb16 id
      replace hb17 := k32.heap hb17 id
      replace K := K.trans (k32.any _)
      refine WX.seqN ?_
      refine WC.cond (b := !(decide (r21 = r27))) (ht := fun h33 => ?_) (hf := fun h33 => ?_)
      · have h34 : (decide (r21 = r27)) = false := Bool.not_inj (y := false) h33
        have ph34 := of_decide_eq_false h34
        refine WC.seq ?_
        refine WC.region ?_
        refine WL.op (d := 4) (.bool false) (k := ?_)
        refine WL.nil ?_
        refine WX.seqN ?_
        refine WC.ret ?_
        refine WX.blockR ?_
        refine WX.seqR ?_
        refine WX.seqR ?_
        refine WX.blockR ?_
        refine WX.seqR ?_
        refine WX.ret (rs := [.tmp 4]) [.bool false] (.bool false) ⟨(by kernel_rfl), trivial⟩ (k := ?_)
        exact ⟨ret_bool (same_ne fun e => of_decide_eq_false (Eq.symm (eqU_bad hr22 hr28 ph34)) (congrArg PCmd.fs e)), K⟩
      · have h35 : (decide (r21 = r27)) = true := Bool.not_inj (y := true) h33
        have ph35 := of_decide_eq_true h35
        refine WC.skip ?_
        refine WX.blockN ?_
        refine WX.seqN ?_
        refine WC.region ?_
        refine WL.op (d := 18) (.int .i64 i) (k := ?_)
        refine WL.opE (d := 19) (.int .i64 (IntKind.i64.wrap (i + 1))) (v := .int .i64 (i + 1)) (congrArg (Value.int .i64) (IntWalk.i64_in _ (by omega))) (k := ?_)
        refine WL.op (d := 5) (.int .i64 (i + 1)) (k := ?_)
        refine WL.nil ?_
        refine WX.round (i + 1) (by show (x.p.fs.length - (i + 1)).toNat < (x.p.fs.length - i).toNat; omega) ⟨(by kernel_rfl), (by kernel_rfl), (by kernel_rfl), (by kernel_rfl), (by kernel_rfl), (by kernel_rfl), (by kernel_rfl), (by kernel_rfl), (by kernel_rfl), (by kernel_rfl), (by kernel_rfl), (by kernel_rfl), trivial⟩ ⟨K, hb16, hb17, (by omega), (by omega), (eqU_succ i0 iu hr22 hr28 ph35)⟩
    · have ph18 := of_decide_eq_false h18
      refine WC.exit ?_
      refine WX.seqE ?_
      refine WX.seqE ?_
      refine WX.blockE ?_
      refine WX.seqN ?_
      refine WC.seq ?_
      refine WC.region ?_
      refine WL.op (d := 31) (.pointer (some ⟨b1, 0, none⟩)) (k := ?_)
      refine WL.load (v := .int .i64 x.p.kind) (ld1 (T := 3) (i := 0) hb16) (k := ?_)
      refine WL.op (d := 33) (.pointer (some ⟨b7, 0, none⟩)) (k := ?_)
      refine WL.load (v := .int .i64 y.p.kind) (ld1 (T := 3) (i := 0) hb17) (k := ?_)
      refine WL.op (d := 35) (.bool (x.p.kind == y.p.kind)) (k := ?_)
      refine WL.op (d := 36) (.bool (x.p.kind == y.p.kind)) (k := ?_)
      refine bsplit (x.p.kind == y.p.kind) (fun h36 => ?_) (fun h36 => ?_)
      · have ph36 := eq_of_beq h36
        refine WL.rw (t := 36) (v := .bool true) (congrArg Value.bool h36) (k := ?_)
        refine WL.op (d := 37) (.pointer (some ⟨b1, 1, none⟩)) (k := ?_)
        refine WL.load (v := GOp.val x.p.op) (ldN (T := 29) (i := 1) (m := 10) (l := (Value.cells (GOp.val x.p.op)).toList) hb16) (k := ?_)
        refine WL.op (d := 39) (.pointer (some ⟨b7, 1, none⟩)) (k := ?_)
        refine WL.load (v := GOp.val y.p.op) (ldN (T := 29) (i := 1) (m := 10) (l := (Value.cells (GOp.val y.p.op)).toList) hb17) (k := ?_)
        refine WL.bin (d := 41) (v := .bool (GOp.same x.p.op y.p.op)) (eqOpV x.p.op y.p.op _) (k := ?_)
        refine WL.op (d := 42) (.bool (GOp.same x.p.op y.p.op)) (k := ?_)
        refine WL.op (d := 43) (.bool (GOp.same x.p.op y.p.op)) (k := ?_)
        refine bsplit (GOp.same x.p.op y.p.op) (fun h37 => ?_) (fun h37 => ?_)
        · have ph37 := same_true h37
          refine WL.rw (t := 43) (v := .bool true) (congrArg Value.bool h37) (k := ?_)
          refine WL.op (d := 44) (.pointer (some ⟨b1, 11, none⟩)) (k := ?_)
          refine WL.load (v := .int .i64 x.p.id) (ld1 (T := 3) (i := 11) hb16) (k := ?_)
          refine WL.op (d := 46) (.pointer (some ⟨b7, 11, none⟩)) (k := ?_)
          refine WL.load (v := .int .i64 y.p.id) (ld1 (T := 3) (i := 11) hb17) (k := ?_)
          refine WL.op (d := 48) (.bool (x.p.id == y.p.id)) (k := ?_)
          refine WL.op (d := 49) (.bool (x.p.id == y.p.id)) (k := ?_)
          refine WL.op (d := 50) (.bool (x.p.id == y.p.id)) (k := ?_)
          refine bsplit (x.p.id == y.p.id) (fun h38 => ?_) (fun h38 => ?_)
          · have ph38 := eq_of_beq h38
            refine WL.rw (t := 50) (v := .bool true) (congrArg Value.bool h38) (k := ?_)
            refine WL.op (d := 51) (.pointer (some ⟨b1, 12, none⟩)) (k := ?_)
            refine WL.load (v := .int .i64 x.p.work) (ld1 (T := 2) (i := 12) hb16) (k := ?_)
            refine WL.op (d := 53) (.pointer (some ⟨b7, 12, none⟩)) (k := ?_)
            refine WL.load (v := .int .i64 y.p.work) (ld1 (T := 2) (i := 12) hb17) (k := ?_)
            refine WL.op (d := 55) (.bool (x.p.work == y.p.work)) (k := ?_)
            refine WL.op (d := 56) (.bool (x.p.work == y.p.work)) (k := ?_)
            refine WL.op (d := 57) (.bool (x.p.work == y.p.work)) (k := ?_)
            refine bsplit (x.p.work == y.p.work) (fun h39 => ?_) (fun h39 => ?_)
            · have ph39 := eq_of_beq h39
              refine WL.rw (t := 57) (v := .bool true) (congrArg Value.bool h39) (k := ?_)
              refine WL.op (d := 58) (.pointer (some ⟨b1, 13, none⟩)) (k := ?_)
              refine WL.load (v := .int .i64 x.p.n) (ld1 (T := 3) (i := 13) hb16) (k := ?_)
              refine WL.op (d := 60) (.pointer (some ⟨b7, 13, none⟩)) (k := ?_)
              refine WL.load (v := .int .i64 y.p.n) (ld1 (T := 3) (i := 13) hb17) (k := ?_)
              refine WL.op (d := 62) (.bool (x.p.n == y.p.n)) (k := ?_)
              refine WL.op (d := 63) (.bool (x.p.n == y.p.n)) (k := ?_)
              refine WL.op (d := 4) (.bool (x.p.n == y.p.n)) (k := ?_)
              refine WL.nil ?_
              refine WX.seqN ?_
              refine WC.ret ?_
              refine WX.ret (rs := [.tmp 4]) [.bool (x.p.n == y.p.n)] (.bool (x.p.n == y.p.n)) ⟨(by kernel_rfl), trivial⟩ (k := ?_)
              exact ⟨ret_bool (same_fin2 ph36 h37 ph38 ph39 (of_decide_eq_true (Eq.symm (eqU_end (i := i) (by omega) (by omega) iu)))), K⟩
            · have ph39 := ne_of_beq_false h39
              refine WL.rw (t := 57) (v := .bool false) (congrArg Value.bool h39) (k := ?_)
              refine WL.skip (d := 58) (k := ?_)
              refine WL.skip (d := 59) (k := ?_)
              refine WL.skip (d := 60) (k := ?_)
              refine WL.skip (d := 61) (k := ?_)
              refine WL.skip (d := 62) (k := ?_)
              refine WL.op (d := 63) (.bool false) (k := ?_)
              refine WL.op (d := 4) (.bool false) (k := ?_)
              refine WL.nil ?_
              refine WX.seqN ?_
              refine WC.ret ?_
              refine WX.ret (rs := [.tmp 4]) [.bool false] (.bool false) ⟨(by kernel_rfl), trivial⟩ (k := ?_)
              exact ⟨ret_bool (same_ne fun e => ph39 (congrArg PCmd.work e)), K⟩
          · have ph38 := ne_of_beq_false h38
            refine WL.rw (t := 50) (v := .bool false) (congrArg Value.bool h38) (k := ?_)
            refine WL.skip (d := 51) (k := ?_)
            refine WL.skip (d := 52) (k := ?_)
            refine WL.skip (d := 53) (k := ?_)
            refine WL.skip (d := 54) (k := ?_)
            refine WL.skip (d := 55) (k := ?_)
            refine WL.op (d := 56) (.bool false) (k := ?_)
            refine WL.op (d := 57) (.bool false) (k := ?_)
            refine WL.skip (d := 58) (k := ?_)
            refine WL.skip (d := 59) (k := ?_)
            refine WL.skip (d := 60) (k := ?_)
            refine WL.skip (d := 61) (k := ?_)
            refine WL.skip (d := 62) (k := ?_)
            refine WL.op (d := 63) (.bool false) (k := ?_)
            refine WL.op (d := 4) (.bool false) (k := ?_)
            refine WL.nil ?_
            refine WX.seqN ?_
            refine WC.ret ?_
            refine WX.ret (rs := [.tmp 4]) [.bool false] (.bool false) ⟨(by kernel_rfl), trivial⟩ (k := ?_)
            exact ⟨ret_bool (same_ne fun e => ph38 (congrArg PCmd.id e)), K⟩
        · have ph37 := same_false h37
          refine WL.rw (t := 43) (v := .bool false) (congrArg Value.bool h37) (k := ?_)
          refine WL.skip (d := 44) (k := ?_)
          refine WL.skip (d := 45) (k := ?_)
          refine WL.skip (d := 46) (k := ?_)
          refine WL.skip (d := 47) (k := ?_)
          refine WL.skip (d := 48) (k := ?_)
          refine WL.op (d := 49) (.bool false) (k := ?_)
          refine WL.op (d := 50) (.bool false) (k := ?_)
          refine WL.skip (d := 51) (k := ?_)
          refine WL.skip (d := 52) (k := ?_)
          refine WL.skip (d := 53) (k := ?_)
          refine WL.skip (d := 54) (k := ?_)
          refine WL.skip (d := 55) (k := ?_)
          refine WL.op (d := 56) (.bool false) (k := ?_)
          refine WL.op (d := 57) (.bool false) (k := ?_)
          refine WL.skip (d := 58) (k := ?_)
          refine WL.skip (d := 59) (k := ?_)
          refine WL.skip (d := 60) (k := ?_)
          refine WL.skip (d := 61) (k := ?_)
          refine WL.skip (d := 62) (k := ?_)
          refine WL.op (d := 63) (.bool false) (k := ?_)
          refine WL.op (d := 4) (.bool false) (k := ?_)
          refine WL.nil ?_
          refine WX.seqN ?_
          refine WC.ret ?_
          refine WX.ret (rs := [.tmp 4]) [.bool false] (.bool false) ⟨(by kernel_rfl), trivial⟩ (k := ?_)
          exact ⟨ret_bool (same_op h37), K⟩
      · have ph36 := ne_of_beq_false h36
        refine WL.rw (t := 36) (v := .bool false) (congrArg Value.bool h36) (k := ?_)
        refine WL.skip (d := 37) (k := ?_)
        refine WL.skip (d := 38) (k := ?_)
        refine WL.skip (d := 39) (k := ?_)
        refine WL.skip (d := 40) (k := ?_)
        refine WL.skip (d := 41) (k := ?_)
        refine WL.op (d := 42) (.bool false) (k := ?_)
        refine WL.op (d := 43) (.bool false) (k := ?_)
        refine WL.skip (d := 44) (k := ?_)
        refine WL.skip (d := 45) (k := ?_)
        refine WL.skip (d := 46) (k := ?_)
        refine WL.skip (d := 47) (k := ?_)
        refine WL.skip (d := 48) (k := ?_)
        refine WL.op (d := 49) (.bool false) (k := ?_)
        refine WL.op (d := 50) (.bool false) (k := ?_)
        refine WL.skip (d := 51) (k := ?_)
        refine WL.skip (d := 52) (k := ?_)
        refine WL.skip (d := 53) (k := ?_)
        refine WL.skip (d := 54) (k := ?_)
        refine WL.skip (d := 55) (k := ?_)
        refine WL.op (d := 56) (.bool false) (k := ?_)
        refine WL.op (d := 57) (.bool false) (k := ?_)
        refine WL.skip (d := 58) (k := ?_)
        refine WL.skip (d := 59) (k := ?_)
        refine WL.skip (d := 60) (k := ?_)
        refine WL.skip (d := 61) (k := ?_)
        refine WL.skip (d := 62) (k := ?_)
        refine WL.op (d := 63) (.bool false) (k := ?_)
        refine WL.op (d := 4) (.bool false) (k := ?_)
        refine WL.nil ?_
        refine WX.seqN ?_
        refine WC.ret ?_
        refine WX.ret (rs := [.tmp 4]) [.bool false] (.bool false) ⟨(by kernel_rfl), trivial⟩ (k := ?_)
        exact ⟨ret_bool (same_ne fun e => ph36 (congrArg PCmd.kind e)), K⟩

set_option maxRecDepth 100000 in
set_option maxHeartbeats 4000000 in
theorem sBare_c (c : GCmd) (w : World) : Calls Try.prog 22 #[c.val] w fun e w' => e = .returned (GCmd.bare c).val ∧ Adds w w' := by
  have K : Keeps (fun _ => False) w w := Keeps.refl _ w
  refine Calls.start Try.func22 rfl (by kernel_rfl) ?_
  refine WC.seq ?_
  refine WC.region ?_
  refine WL.new (d := 1) (T := 32) (Value.cells (GCmd.val c)) (k := fun b1 w2 g3 hb4 k5 => ?_)
  have z6 := Nat.le_trans K.size g3
  replace K := K.trans (k5.any _)
  refine WL.new (d := 2) (T := 32) #[.int .i64 0, .int .i64 0, .int .i64 0, .int .i64 0, .int .i64 0, .int .i64 0, .int .i64 0, .bool false, .int .i64 0, .int .i64 0, .int .i64 0, .int .i64 0, .int .i64 0, .int .i64 0, .slice none 0 0] (k := fun b7 w8 g9 hb10 k11 => ?_)
  have z12 := Nat.le_trans K.size g9
  have n13 : b1 ≠ b7 := Nat.ne_of_lt (Nat.lt_of_lt_of_le (lt_of_heap hb4) g9)
  replace hb4 := k11.heap hb4 id
  replace K := K.trans (k11.any _)
  refine WL.nil ?_
  refine WX.seqN ?_
  refine WC.seq ?_
  refine WC.seq ?_
  refine WC.region ?_
  refine WL.op (d := 3) (.pointer (some ⟨b1, 0, none⟩)) (k := ?_)
  refine WL.load (v := .int .i64 c.p.kind) (ld1 (T := 3) (i := 0) hb4) (k := ?_)
  refine WL.nil ?_
  refine WX.seqN ?_
  refine WC.block ?_
  refine WC.seq ?_
  refine WC.region ?_
  refine WL.op (d := 6) (.bool (c.p.kind == 1)) (k := ?_)
  refine WL.op (d := 5) (.bool (c.p.kind == 1)) (k := ?_)
  refine WL.nil ?_
  refine WX.seqN ?_
  refine WC.cond (b := c.p.kind == 1) (ht := fun h14 => ?_) (hf := fun h14 => ?_)
  · have ph14 := eq_of_beq h14
    refine WC.seq ?_
    refine WC.region ?_
    refine WL.op (d := 7) (.pointer (some ⟨b1, 0, none⟩)) (k := ?_)
    refine WL.load (v := .int .i64 c.p.kind) (ld1 (T := 3) (i := 0) hb4) (k := ?_)
    refine WL.op (d := 9) (.pointer (some ⟨b1, 1, none⟩)) (k := ?_)
    refine WL.load (v := GOp.val c.p.op) (ldN (T := 29) (i := 1) (m := 10) (l := (Value.cells (GOp.val c.p.op)).toList) hb4) (k := ?_)
    refine WL.op (d := 11) (.agg #[.int .i64 c.p.kind, .int .i64 c.p.op.kind, .int .i64 c.p.op.task.id, .int .i64 c.p.op.task.c, .int .i64 c.p.op.task.d, .int .i64 c.p.op.task.t, .int .i64 c.p.op.task.m, .bool c.p.op.sv, .int .i64 c.p.op.id, .int .i64 c.p.op.c, .int .i64 c.p.op.m, .int .i64 0, .int .i64 0, .int .i64 0, .slice none 0 0]) (k := ?_)
    refine WL.store (v := .agg #[.int .i64 c.p.kind, .int .i64 c.p.op.kind, .int .i64 c.p.op.task.id, .int .i64 c.p.op.task.c, .int .i64 c.p.op.task.d, .int .i64 c.p.op.task.t, .int .i64 c.p.op.task.m, .bool c.p.op.sv, .int .i64 c.p.op.id, .int .i64 c.p.op.c, .int .i64 c.p.op.m, .int .i64 0, .int .i64 0, .int .i64 0, .slice none 0 0]) (i := 0) (cs' := #[.int .i64 c.p.kind, .int .i64 c.p.op.kind, .int .i64 c.p.op.task.id, .int .i64 c.p.op.task.c, .int .i64 c.p.op.task.d, .int .i64 c.p.op.task.t, .int .i64 c.p.op.task.m, .bool c.p.op.sv, .int .i64 c.p.op.id, .int .i64 c.p.op.c, .int .i64 c.p.op.m, .int .i64 0, .int .i64 0, .int .i64 0, .slice none 0 0]) hb10 (k := fun w15 hb16 k17 => ?_)
    replace hb4 := k17.heap hb4 n13
    replace K := K.trans' k17 (fun i hi e => absurd (e ▸ hi) (Nat.not_lt.2 z12))
    clear hb10
    refine WL.nil ?_
    refine WX.seqN ?_
    refine WC.ret ?_
    refine WX.blockR ?_
    refine WX.seqR ?_
    refine WX.ret (rs := [.cell 2 32]) [.agg #[.int .i64 c.p.kind, .int .i64 c.p.op.kind, .int .i64 c.p.op.task.id, .int .i64 c.p.op.task.c, .int .i64 c.p.op.task.d, .int .i64 c.p.op.task.t, .int .i64 c.p.op.task.m, .bool c.p.op.sv, .int .i64 c.p.op.id, .int .i64 c.p.op.c, .int .i64 c.p.op.m, .int .i64 0, .int .i64 0, .int .i64 0, .slice none 0 0]] (.agg #[.int .i64 c.p.kind, .int .i64 c.p.op.kind, .int .i64 c.p.op.task.id, .int .i64 c.p.op.task.c, .int .i64 c.p.op.task.d, .int .i64 c.p.op.task.t, .int .i64 c.p.op.task.m, .bool c.p.op.sv, .int .i64 c.p.op.id, .int .i64 c.p.op.c, .int .i64 c.p.op.m, .int .i64 0, .int .i64 0, .int .i64 0, .slice none 0 0]) ⟨⟨_, (by kernel_rfl), ldN (T := 32) (i := 0) (m := 15) (l := [.int .i64 c.p.kind, .int .i64 c.p.op.kind, .int .i64 c.p.op.task.id, .int .i64 c.p.op.task.c, .int .i64 c.p.op.task.d, .int .i64 c.p.op.task.t, .int .i64 c.p.op.task.m, .bool c.p.op.sv, .int .i64 c.p.op.id, .int .i64 c.p.op.c, .int .i64 c.p.op.m, .int .i64 0, .int .i64 0, .int .i64 0, .slice none 0 0]) hb16⟩, trivial⟩ (k := ?_)
    exact ⟨by simp [GCmd.bare, PCmd.bare, GOp.zero, ph14], K⟩
  · have ph14 := ne_of_beq_false h14
    refine WC.seq ?_
    refine WC.seq ?_
    refine WC.region ?_
    refine WL.op (d := 13) (.bool (c.p.kind == 2)) (k := ?_)
    refine WL.op (d := 12) (.bool (c.p.kind == 2)) (k := ?_)
    refine WL.nil ?_
    refine WX.seqN ?_
    refine WC.cond (b := c.p.kind == 2) (ht := fun h18 => ?_) (hf := fun h18 => ?_)
    · have ph18 := eq_of_beq h18
      refine WC.skip ?_
      refine WX.seqN ?_
      refine WC.rw (t := 12) (v := .bool true) (congrArg Value.bool h18) (k := ?_)
      refine WC.condT (k := ?_)
      refine WC.seq ?_
      refine WC.region ?_
      refine WL.op (d := 15) (.pointer (some ⟨b1, 0, none⟩)) (k := ?_)
      refine WL.load (v := .int .i64 c.p.kind) (ld1 (T := 3) (i := 0) hb4) (k := ?_)
      refine WL.op (d := 17) (.pointer (some ⟨b1, 11, none⟩)) (k := ?_)
      refine WL.load (v := .int .i64 c.p.id) (ld1 (T := 3) (i := 11) hb4) (k := ?_)
      refine WL.op (d := 19) (.pointer (some ⟨b1, 12, none⟩)) (k := ?_)
      refine WL.load (v := .int .i64 c.p.work) (ld1 (T := 2) (i := 12) hb4) (k := ?_)
      refine WL.op (d := 21) (.agg #[.int .i64 c.p.kind, .int .i64 0, .int .i64 0, .int .i64 0, .int .i64 0, .int .i64 0, .int .i64 0, .bool false, .int .i64 0, .int .i64 0, .int .i64 0, .int .i64 c.p.id, .int .i64 c.p.work, .int .i64 0, .slice none 0 0]) (k := ?_)
      refine WL.store (v := .agg #[.int .i64 c.p.kind, .int .i64 0, .int .i64 0, .int .i64 0, .int .i64 0, .int .i64 0, .int .i64 0, .bool false, .int .i64 0, .int .i64 0, .int .i64 0, .int .i64 c.p.id, .int .i64 c.p.work, .int .i64 0, .slice none 0 0]) (i := 0) (cs' := #[.int .i64 c.p.kind, .int .i64 0, .int .i64 0, .int .i64 0, .int .i64 0, .int .i64 0, .int .i64 0, .bool false, .int .i64 0, .int .i64 0, .int .i64 0, .int .i64 c.p.id, .int .i64 c.p.work, .int .i64 0, .slice none 0 0]) hb10 (k := fun w19 hb20 k21 => ?_)
      replace hb4 := k21.heap hb4 n13
      replace K := K.trans' k21 (fun i hi e => absurd (e ▸ hi) (Nat.not_lt.2 z12))
      clear hb10
      refine WL.nil ?_
      refine WX.seqN ?_
      refine WC.ret ?_
      refine WX.blockR ?_
      refine WX.seqR ?_
      refine WX.ret (rs := [.cell 2 32]) [.agg #[.int .i64 c.p.kind, .int .i64 0, .int .i64 0, .int .i64 0, .int .i64 0, .int .i64 0, .int .i64 0, .bool false, .int .i64 0, .int .i64 0, .int .i64 0, .int .i64 c.p.id, .int .i64 c.p.work, .int .i64 0, .slice none 0 0]] (.agg #[.int .i64 c.p.kind, .int .i64 0, .int .i64 0, .int .i64 0, .int .i64 0, .int .i64 0, .int .i64 0, .bool false, .int .i64 0, .int .i64 0, .int .i64 0, .int .i64 c.p.id, .int .i64 c.p.work, .int .i64 0, .slice none 0 0]) ⟨⟨_, (by kernel_rfl), ldN (T := 32) (i := 0) (m := 15) (l := [.int .i64 c.p.kind, .int .i64 0, .int .i64 0, .int .i64 0, .int .i64 0, .int .i64 0, .int .i64 0, .bool false, .int .i64 0, .int .i64 0, .int .i64 0, .int .i64 c.p.id, .int .i64 c.p.work, .int .i64 0, .slice none 0 0]) hb20⟩, trivial⟩ (k := ?_)
      exact ⟨by simp [GCmd.bare, PCmd.bare, GOp.zero, ph14, ph18], K⟩
    · have ph18 := ne_of_beq_false h18
      refine WC.region ?_
      refine WL.op (d := 14) (.bool (c.p.kind == 3)) (k := ?_)
      refine WL.op (d := 12) (.bool (c.p.kind == 3)) (k := ?_)
      refine WL.nil ?_
      refine WX.seqN ?_
      refine WC.cond (b := c.p.kind == 3) (ht := fun h22 => ?_) (hf := fun h22 => ?_)
      · have ph22 := eq_of_beq h22
        refine WC.seq ?_
        refine WC.region ?_
        refine WL.op (d := 15) (.pointer (some ⟨b1, 0, none⟩)) (k := ?_)
        refine WL.load (v := .int .i64 c.p.kind) (ld1 (T := 3) (i := 0) hb4) (k := ?_)
        refine WL.op (d := 17) (.pointer (some ⟨b1, 11, none⟩)) (k := ?_)
        refine WL.load (v := .int .i64 c.p.id) (ld1 (T := 3) (i := 11) hb4) (k := ?_)
        refine WL.op (d := 19) (.pointer (some ⟨b1, 12, none⟩)) (k := ?_)
        refine WL.load (v := .int .i64 c.p.work) (ld1 (T := 2) (i := 12) hb4) (k := ?_)
        refine WL.op (d := 21) (.agg #[.int .i64 c.p.kind, .int .i64 0, .int .i64 0, .int .i64 0, .int .i64 0, .int .i64 0, .int .i64 0, .bool false, .int .i64 0, .int .i64 0, .int .i64 0, .int .i64 c.p.id, .int .i64 c.p.work, .int .i64 0, .slice none 0 0]) (k := ?_)
        refine WL.store (v := .agg #[.int .i64 c.p.kind, .int .i64 0, .int .i64 0, .int .i64 0, .int .i64 0, .int .i64 0, .int .i64 0, .bool false, .int .i64 0, .int .i64 0, .int .i64 0, .int .i64 c.p.id, .int .i64 c.p.work, .int .i64 0, .slice none 0 0]) (i := 0) (cs' := #[.int .i64 c.p.kind, .int .i64 0, .int .i64 0, .int .i64 0, .int .i64 0, .int .i64 0, .int .i64 0, .bool false, .int .i64 0, .int .i64 0, .int .i64 0, .int .i64 c.p.id, .int .i64 c.p.work, .int .i64 0, .slice none 0 0]) hb10 (k := fun w23 hb24 k25 => ?_)
        replace hb4 := k25.heap hb4 n13
        replace K := K.trans' k25 (fun i hi e => absurd (e ▸ hi) (Nat.not_lt.2 z12))
        clear hb10
        refine WL.nil ?_
        refine WX.seqN ?_
        refine WC.ret ?_
        refine WX.blockR ?_
        refine WX.seqR ?_
        refine WX.ret (rs := [.cell 2 32]) [.agg #[.int .i64 c.p.kind, .int .i64 0, .int .i64 0, .int .i64 0, .int .i64 0, .int .i64 0, .int .i64 0, .bool false, .int .i64 0, .int .i64 0, .int .i64 0, .int .i64 c.p.id, .int .i64 c.p.work, .int .i64 0, .slice none 0 0]] (.agg #[.int .i64 c.p.kind, .int .i64 0, .int .i64 0, .int .i64 0, .int .i64 0, .int .i64 0, .int .i64 0, .bool false, .int .i64 0, .int .i64 0, .int .i64 0, .int .i64 c.p.id, .int .i64 c.p.work, .int .i64 0, .slice none 0 0]) ⟨⟨_, (by kernel_rfl), ldN (T := 32) (i := 0) (m := 15) (l := [.int .i64 c.p.kind, .int .i64 0, .int .i64 0, .int .i64 0, .int .i64 0, .int .i64 0, .int .i64 0, .bool false, .int .i64 0, .int .i64 0, .int .i64 0, .int .i64 c.p.id, .int .i64 c.p.work, .int .i64 0, .slice none 0 0]) hb24⟩, trivial⟩ (k := ?_)
        exact ⟨by simp [GCmd.bare, PCmd.bare, GOp.zero, ph14, ph18, ph22], K⟩
      · have ph22 := ne_of_beq_false h22
        refine WC.seq ?_
        refine WC.seq ?_
        refine WC.region ?_
        refine WL.op (d := 23) (.bool (c.p.kind == 4)) (k := ?_)
        refine WL.op (d := 22) (.bool (c.p.kind == 4)) (k := ?_)
        refine WL.nil ?_
        refine WX.seqN ?_
        refine WC.cond (b := c.p.kind == 4) (ht := fun h26 => ?_) (hf := fun h26 => ?_)
        · have ph26 := eq_of_beq h26
          refine WC.skip ?_
          refine WX.seqN ?_
          refine WC.rw (t := 22) (v := .bool true) (congrArg Value.bool h26) (k := ?_)
          refine WC.condT (k := ?_)
          refine WC.seq ?_
          refine WC.region ?_
          refine WL.op (d := 25) (.pointer (some ⟨b1, 0, none⟩)) (k := ?_)
          refine WL.load (v := .int .i64 c.p.kind) (ld1 (T := 3) (i := 0) hb4) (k := ?_)
          refine WL.op (d := 27) (.pointer (some ⟨b1, 13, none⟩)) (k := ?_)
          refine WL.load (v := .int .i64 c.p.n) (ld1 (T := 3) (i := 13) hb4) (k := ?_)
          refine WL.op (d := 29) (.agg #[.int .i64 c.p.kind, .int .i64 0, .int .i64 0, .int .i64 0, .int .i64 0, .int .i64 0, .int .i64 0, .bool false, .int .i64 0, .int .i64 0, .int .i64 0, .int .i64 0, .int .i64 0, .int .i64 c.p.n, .slice none 0 0]) (k := ?_)
          refine WL.store (v := .agg #[.int .i64 c.p.kind, .int .i64 0, .int .i64 0, .int .i64 0, .int .i64 0, .int .i64 0, .int .i64 0, .bool false, .int .i64 0, .int .i64 0, .int .i64 0, .int .i64 0, .int .i64 0, .int .i64 c.p.n, .slice none 0 0]) (i := 0) (cs' := #[.int .i64 c.p.kind, .int .i64 0, .int .i64 0, .int .i64 0, .int .i64 0, .int .i64 0, .int .i64 0, .bool false, .int .i64 0, .int .i64 0, .int .i64 0, .int .i64 0, .int .i64 0, .int .i64 c.p.n, .slice none 0 0]) hb10 (k := fun w27 hb28 k29 => ?_)
          replace hb4 := k29.heap hb4 n13
          replace K := K.trans' k29 (fun i hi e => absurd (e ▸ hi) (Nat.not_lt.2 z12))
          clear hb10
          refine WL.nil ?_
          refine WX.seqN ?_
          refine WC.ret ?_
          refine WX.blockR ?_
          refine WX.seqR ?_
          refine WX.ret (rs := [.cell 2 32]) [.agg #[.int .i64 c.p.kind, .int .i64 0, .int .i64 0, .int .i64 0, .int .i64 0, .int .i64 0, .int .i64 0, .bool false, .int .i64 0, .int .i64 0, .int .i64 0, .int .i64 0, .int .i64 0, .int .i64 c.p.n, .slice none 0 0]] (.agg #[.int .i64 c.p.kind, .int .i64 0, .int .i64 0, .int .i64 0, .int .i64 0, .int .i64 0, .int .i64 0, .bool false, .int .i64 0, .int .i64 0, .int .i64 0, .int .i64 0, .int .i64 0, .int .i64 c.p.n, .slice none 0 0]) ⟨⟨_, (by kernel_rfl), ldN (T := 32) (i := 0) (m := 15) (l := [.int .i64 c.p.kind, .int .i64 0, .int .i64 0, .int .i64 0, .int .i64 0, .int .i64 0, .int .i64 0, .bool false, .int .i64 0, .int .i64 0, .int .i64 0, .int .i64 0, .int .i64 0, .int .i64 c.p.n, .slice none 0 0]) hb28⟩, trivial⟩ (k := ?_)
          exact ⟨by simp [GCmd.bare, PCmd.bare, GOp.zero, ph14, ph18, ph22, ph26], K⟩
        · have ph26 := ne_of_beq_false h26
          refine WC.region ?_
          refine WL.op (d := 24) (.bool (c.p.kind == 7)) (k := ?_)
          refine WL.op (d := 22) (.bool (c.p.kind == 7)) (k := ?_)
          refine WL.nil ?_
          refine WX.seqN ?_
          refine WC.cond (b := c.p.kind == 7) (ht := fun h30 => ?_) (hf := fun h30 => ?_)
          · have ph30 := eq_of_beq h30
            refine WC.seq ?_
            refine WC.region ?_
            refine WL.op (d := 25) (.pointer (some ⟨b1, 0, none⟩)) (k := ?_)
            refine WL.load (v := .int .i64 c.p.kind) (ld1 (T := 3) (i := 0) hb4) (k := ?_)
            refine WL.op (d := 27) (.pointer (some ⟨b1, 13, none⟩)) (k := ?_)
            refine WL.load (v := .int .i64 c.p.n) (ld1 (T := 3) (i := 13) hb4) (k := ?_)
            refine WL.op (d := 29) (.agg #[.int .i64 c.p.kind, .int .i64 0, .int .i64 0, .int .i64 0, .int .i64 0, .int .i64 0, .int .i64 0, .bool false, .int .i64 0, .int .i64 0, .int .i64 0, .int .i64 0, .int .i64 0, .int .i64 c.p.n, .slice none 0 0]) (k := ?_)
            refine WL.store (v := .agg #[.int .i64 c.p.kind, .int .i64 0, .int .i64 0, .int .i64 0, .int .i64 0, .int .i64 0, .int .i64 0, .bool false, .int .i64 0, .int .i64 0, .int .i64 0, .int .i64 0, .int .i64 0, .int .i64 c.p.n, .slice none 0 0]) (i := 0) (cs' := #[.int .i64 c.p.kind, .int .i64 0, .int .i64 0, .int .i64 0, .int .i64 0, .int .i64 0, .int .i64 0, .bool false, .int .i64 0, .int .i64 0, .int .i64 0, .int .i64 0, .int .i64 0, .int .i64 c.p.n, .slice none 0 0]) hb10 (k := fun w31 hb32 k33 => ?_)
            replace hb4 := k33.heap hb4 n13
            replace K := K.trans' k33 (fun i hi e => absurd (e ▸ hi) (Nat.not_lt.2 z12))
            clear hb10
            refine WL.nil ?_
            refine WX.seqN ?_
            refine WC.ret ?_
            refine WX.blockR ?_
            refine WX.seqR ?_
            refine WX.ret (rs := [.cell 2 32]) [.agg #[.int .i64 c.p.kind, .int .i64 0, .int .i64 0, .int .i64 0, .int .i64 0, .int .i64 0, .int .i64 0, .bool false, .int .i64 0, .int .i64 0, .int .i64 0, .int .i64 0, .int .i64 0, .int .i64 c.p.n, .slice none 0 0]] (.agg #[.int .i64 c.p.kind, .int .i64 0, .int .i64 0, .int .i64 0, .int .i64 0, .int .i64 0, .int .i64 0, .bool false, .int .i64 0, .int .i64 0, .int .i64 0, .int .i64 0, .int .i64 0, .int .i64 c.p.n, .slice none 0 0]) ⟨⟨_, (by kernel_rfl), ldN (T := 32) (i := 0) (m := 15) (l := [.int .i64 c.p.kind, .int .i64 0, .int .i64 0, .int .i64 0, .int .i64 0, .int .i64 0, .int .i64 0, .bool false, .int .i64 0, .int .i64 0, .int .i64 0, .int .i64 0, .int .i64 0, .int .i64 c.p.n, .slice none 0 0]) hb32⟩, trivial⟩ (k := ?_)
            exact ⟨by simp [GCmd.bare, PCmd.bare, GOp.zero, ph14, ph18, ph22, ph26, ph30], K⟩
          · have ph30 := ne_of_beq_false h30
            refine WC.seq ?_
            refine WC.region ?_
            refine WL.op (d := 31) (.bool (c.p.kind == 5)) (k := ?_)
            refine WL.op (d := 30) (.bool (c.p.kind == 5)) (k := ?_)
            refine WL.nil ?_
            refine WX.seqN ?_
            refine WC.cond (b := c.p.kind == 5) (ht := fun h34 => ?_) (hf := fun h34 => ?_)
            · have ph34 := eq_of_beq h34
              refine WC.seq ?_
              refine WC.region ?_
              refine WL.op (d := 32) (.pointer (some ⟨b1, 0, none⟩)) (k := ?_)
              refine WL.load (v := .int .i64 c.p.kind) (ld1 (T := 3) (i := 0) hb4) (k := ?_)
              refine WL.op (d := 34) (.pointer (some ⟨b1, 11, none⟩)) (k := ?_)
              refine WL.load (v := .int .i64 c.p.id) (ld1 (T := 3) (i := 11) hb4) (k := ?_)
              refine WL.op (d := 36) (.agg #[.int .i64 c.p.kind, .int .i64 0, .int .i64 0, .int .i64 0, .int .i64 0, .int .i64 0, .int .i64 0, .bool false, .int .i64 0, .int .i64 0, .int .i64 0, .int .i64 c.p.id, .int .i64 0, .int .i64 0, .slice none 0 0]) (k := ?_)
              refine WL.store (v := .agg #[.int .i64 c.p.kind, .int .i64 0, .int .i64 0, .int .i64 0, .int .i64 0, .int .i64 0, .int .i64 0, .bool false, .int .i64 0, .int .i64 0, .int .i64 0, .int .i64 c.p.id, .int .i64 0, .int .i64 0, .slice none 0 0]) (i := 0) (cs' := #[.int .i64 c.p.kind, .int .i64 0, .int .i64 0, .int .i64 0, .int .i64 0, .int .i64 0, .int .i64 0, .bool false, .int .i64 0, .int .i64 0, .int .i64 0, .int .i64 c.p.id, .int .i64 0, .int .i64 0, .slice none 0 0]) hb10 (k := fun w35 hb36 k37 => ?_)
              replace hb4 := k37.heap hb4 n13
              replace K := K.trans' k37 (fun i hi e => absurd (e ▸ hi) (Nat.not_lt.2 z12))
              clear hb10
              refine WL.nil ?_
              refine WX.seqN ?_
              refine WC.ret ?_
              refine WX.blockR ?_
              refine WX.seqR ?_
              refine WX.ret (rs := [.cell 2 32]) [.agg #[.int .i64 c.p.kind, .int .i64 0, .int .i64 0, .int .i64 0, .int .i64 0, .int .i64 0, .int .i64 0, .bool false, .int .i64 0, .int .i64 0, .int .i64 0, .int .i64 c.p.id, .int .i64 0, .int .i64 0, .slice none 0 0]] (.agg #[.int .i64 c.p.kind, .int .i64 0, .int .i64 0, .int .i64 0, .int .i64 0, .int .i64 0, .int .i64 0, .bool false, .int .i64 0, .int .i64 0, .int .i64 0, .int .i64 c.p.id, .int .i64 0, .int .i64 0, .slice none 0 0]) ⟨⟨_, (by kernel_rfl), ldN (T := 32) (i := 0) (m := 15) (l := [.int .i64 c.p.kind, .int .i64 0, .int .i64 0, .int .i64 0, .int .i64 0, .int .i64 0, .int .i64 0, .bool false, .int .i64 0, .int .i64 0, .int .i64 0, .int .i64 c.p.id, .int .i64 0, .int .i64 0, .slice none 0 0]) hb36⟩, trivial⟩ (k := ?_)
              exact ⟨by simp [GCmd.bare, PCmd.bare, GOp.zero, ph14, ph18, ph22, ph26, ph30, ph34], K⟩
            · have ph34 := ne_of_beq_false h34
              refine WC.seq ?_
              refine WC.region ?_
              refine WL.op (d := 38) (.bool (c.p.kind == 8)) (k := ?_)
              refine WL.op (d := 37) (.bool (c.p.kind == 8)) (k := ?_)
              refine WL.nil ?_
              refine WX.seqN ?_
              refine WC.cond (b := c.p.kind == 8) (ht := fun h38 => ?_) (hf := fun h38 => ?_)
              · have ph38 := eq_of_beq h38
                refine WC.seq ?_
                refine WC.region ?_
                refine WL.op (d := 39) (.pointer (some ⟨b1, 0, none⟩)) (k := ?_)
                refine WL.load (v := .int .i64 c.p.kind) (ld1 (T := 3) (i := 0) hb4) (k := ?_)
                refine WL.op (d := 41) (.pointer (some ⟨b1, 14, none⟩)) (k := ?_)
                refine WL.load (v := .slice c.A c.p.fs.length c.cap) (ld1 (T := 30) (i := 14) hb4) (k := ?_)
                refine WL.op (d := 43) (.agg #[.int .i64 c.p.kind, .int .i64 0, .int .i64 0, .int .i64 0, .int .i64 0, .int .i64 0, .int .i64 0, .bool false, .int .i64 0, .int .i64 0, .int .i64 0, .int .i64 0, .int .i64 0, .int .i64 0, .slice c.A c.p.fs.length c.cap]) (k := ?_)
                refine WL.store (v := .agg #[.int .i64 c.p.kind, .int .i64 0, .int .i64 0, .int .i64 0, .int .i64 0, .int .i64 0, .int .i64 0, .bool false, .int .i64 0, .int .i64 0, .int .i64 0, .int .i64 0, .int .i64 0, .int .i64 0, .slice c.A c.p.fs.length c.cap]) (i := 0) (cs' := #[.int .i64 c.p.kind, .int .i64 0, .int .i64 0, .int .i64 0, .int .i64 0, .int .i64 0, .int .i64 0, .bool false, .int .i64 0, .int .i64 0, .int .i64 0, .int .i64 0, .int .i64 0, .int .i64 0, .slice c.A c.p.fs.length c.cap]) hb10 (k := fun w39 hb40 k41 => ?_)
                replace hb4 := k41.heap hb4 n13
                replace K := K.trans' k41 (fun i hi e => absurd (e ▸ hi) (Nat.not_lt.2 z12))
                clear hb10
                refine WL.nil ?_
                refine WX.seqN ?_
                refine WC.ret ?_
                refine WX.blockR ?_
                refine WX.seqR ?_
                refine WX.ret (rs := [.cell 2 32]) [.agg #[.int .i64 c.p.kind, .int .i64 0, .int .i64 0, .int .i64 0, .int .i64 0, .int .i64 0, .int .i64 0, .bool false, .int .i64 0, .int .i64 0, .int .i64 0, .int .i64 0, .int .i64 0, .int .i64 0, .slice c.A c.p.fs.length c.cap]] (.agg #[.int .i64 c.p.kind, .int .i64 0, .int .i64 0, .int .i64 0, .int .i64 0, .int .i64 0, .int .i64 0, .bool false, .int .i64 0, .int .i64 0, .int .i64 0, .int .i64 0, .int .i64 0, .int .i64 0, .slice c.A c.p.fs.length c.cap]) ⟨⟨_, (by kernel_rfl), ldN (T := 32) (i := 0) (m := 15) (l := [.int .i64 c.p.kind, .int .i64 0, .int .i64 0, .int .i64 0, .int .i64 0, .int .i64 0, .int .i64 0, .bool false, .int .i64 0, .int .i64 0, .int .i64 0, .int .i64 0, .int .i64 0, .int .i64 0, .slice c.A c.p.fs.length c.cap]) hb40⟩, trivial⟩ (k := ?_)
                exact ⟨by simp [GCmd.bare, PCmd.bare, GOp.zero, ph14, ph18, ph22, ph26, ph30, ph34, ph38], K⟩
              · have ph38 := ne_of_beq_false h38
                refine WC.skip ?_
                refine WX.blockN ?_
                refine WX.seqN ?_
                refine WC.seq ?_
                refine WC.region ?_
                refine WL.op (d := 44) (.pointer (some ⟨b1, 0, none⟩)) (k := ?_)
                refine WL.load (v := .int .i64 c.p.kind) (ld1 (T := 3) (i := 0) hb4) (k := ?_)
                refine WL.op (d := 46) (.agg #[.int .i64 c.p.kind, .int .i64 0, .int .i64 0, .int .i64 0, .int .i64 0, .int .i64 0, .int .i64 0, .bool false, .int .i64 0, .int .i64 0, .int .i64 0, .int .i64 0, .int .i64 0, .int .i64 0, .slice none 0 0]) (k := ?_)
                refine WL.store (v := .agg #[.int .i64 c.p.kind, .int .i64 0, .int .i64 0, .int .i64 0, .int .i64 0, .int .i64 0, .int .i64 0, .bool false, .int .i64 0, .int .i64 0, .int .i64 0, .int .i64 0, .int .i64 0, .int .i64 0, .slice none 0 0]) (i := 0) (cs' := #[.int .i64 c.p.kind, .int .i64 0, .int .i64 0, .int .i64 0, .int .i64 0, .int .i64 0, .int .i64 0, .bool false, .int .i64 0, .int .i64 0, .int .i64 0, .int .i64 0, .int .i64 0, .int .i64 0, .slice none 0 0]) hb10 (k := fun w42 hb43 k44 => ?_)
                replace hb4 := k44.heap hb4 n13
                replace K := K.trans' k44 (fun i hi e => absurd (e ▸ hi) (Nat.not_lt.2 z12))
                clear hb10
                refine WL.nil ?_
                refine WX.seqN ?_
                refine WC.ret ?_
                refine WX.ret (rs := [.cell 2 32]) [.agg #[.int .i64 c.p.kind, .int .i64 0, .int .i64 0, .int .i64 0, .int .i64 0, .int .i64 0, .int .i64 0, .bool false, .int .i64 0, .int .i64 0, .int .i64 0, .int .i64 0, .int .i64 0, .int .i64 0, .slice none 0 0]] (.agg #[.int .i64 c.p.kind, .int .i64 0, .int .i64 0, .int .i64 0, .int .i64 0, .int .i64 0, .int .i64 0, .bool false, .int .i64 0, .int .i64 0, .int .i64 0, .int .i64 0, .int .i64 0, .int .i64 0, .slice none 0 0]) ⟨⟨_, (by kernel_rfl), ldN (T := 32) (i := 0) (m := 15) (l := [.int .i64 c.p.kind, .int .i64 0, .int .i64 0, .int .i64 0, .int .i64 0, .int .i64 0, .int .i64 0, .bool false, .int .i64 0, .int .i64 0, .int .i64 0, .int .i64 0, .int .i64 0, .int .i64 0, .slice none 0 0]) hb43⟩, trivial⟩ (k := ?_)
                exact ⟨by simp [GCmd.bare, PCmd.bare, GOp.zero, ph14, ph18, ph22, ph26, ph30, ph34, ph38], K⟩

set_option maxRecDepth 100000 in
set_option maxHeartbeats 4000000 in
theorem u23bare_c (c : GCmd) (w : World) : Calls Try.prog 25 #[c.val] w fun e w' => e = .returned (GCmd.bare c).val ∧ Adds w w' := by
  have K : Keeps (fun _ => False) w w := Keeps.refl _ w
  refine Calls.start Try.func25 rfl (by kernel_rfl) ?_
  refine WC.seq ?_
  refine WC.region ?_
  refine WL.new (d := 1) (T := 32) (Value.cells (GCmd.val c)) (k := fun b1 w2 g3 hb4 k5 => ?_)
  have z6 := Nat.le_trans K.size g3
  replace K := K.trans (k5.any _)
  refine WL.new (d := 2) (T := 32) #[.int .i64 0, .int .i64 0, .int .i64 0, .int .i64 0, .int .i64 0, .int .i64 0, .int .i64 0, .bool false, .int .i64 0, .int .i64 0, .int .i64 0, .int .i64 0, .int .i64 0, .int .i64 0, .slice none 0 0] (k := fun b7 w8 g9 hb10 k11 => ?_)
  have z12 := Nat.le_trans K.size g9
  have n13 : b1 ≠ b7 := Nat.ne_of_lt (Nat.lt_of_lt_of_le (lt_of_heap hb4) g9)
  replace hb4 := k11.heap hb4 id
  replace K := K.trans (k11.any _)
  refine WL.nil ?_
  refine WX.seqN ?_
  refine WC.seq ?_
  refine WC.region ?_
  refine WL.op (d := 4) (.pointer (some ⟨b1, 0, none⟩)) (k := ?_)
  refine WL.load (v := .int .i64 c.p.kind) (ld1 (T := 3) (i := 0) hb4) (k := ?_)
  refine WL.op (d := 6) (.agg #[.int .i64 c.p.kind, .int .i64 0, .int .i64 0, .int .i64 0, .int .i64 0, .int .i64 0, .int .i64 0, .bool false, .int .i64 0, .int .i64 0, .int .i64 0, .int .i64 0, .int .i64 0, .int .i64 0, .slice none 0 0]) (k := ?_)
  refine WL.new (d := 3) (T := 32) #[.int .i64 0, .int .i64 0, .int .i64 0, .int .i64 0, .int .i64 0, .int .i64 0, .int .i64 0, .bool false, .int .i64 0, .int .i64 0, .int .i64 0, .int .i64 0, .int .i64 0, .int .i64 0, .slice none 0 0] (k := fun b14 w15 g16 hb17 k18 => ?_)
  have z19 := Nat.le_trans K.size g16
  have n20 : b1 ≠ b14 := Nat.ne_of_lt (Nat.lt_of_lt_of_le (lt_of_heap hb4) g16)
  have n21 : b7 ≠ b14 := Nat.ne_of_lt (Nat.lt_of_lt_of_le (lt_of_heap hb10) g16)
  replace hb4 := k18.heap hb4 id
  replace hb10 := k18.heap hb10 id
  replace K := K.trans (k18.any _)
  refine WL.store (v := .agg #[.int .i64 c.p.kind, .int .i64 0, .int .i64 0, .int .i64 0, .int .i64 0, .int .i64 0, .int .i64 0, .bool false, .int .i64 0, .int .i64 0, .int .i64 0, .int .i64 0, .int .i64 0, .int .i64 0, .slice none 0 0]) (i := 0) (cs' := #[.int .i64 c.p.kind, .int .i64 0, .int .i64 0, .int .i64 0, .int .i64 0, .int .i64 0, .int .i64 0, .bool false, .int .i64 0, .int .i64 0, .int .i64 0, .int .i64 0, .int .i64 0, .int .i64 0, .slice none 0 0]) hb17 (k := fun w22 hb23 k24 => ?_)
  replace hb4 := k24.heap hb4 n20
  replace hb10 := k24.heap hb10 n21
  replace K := K.trans' k24 (fun i hi e => absurd (e ▸ hi) (Nat.not_lt.2 z19))
  clear hb17
  refine WL.nil ?_
  refine WX.seqN ?_
  refine WC.seq ?_
  refine WC.seq ?_
  refine WC.region ?_
  refine WL.op (d := 7) (.pointer (some ⟨b1, 0, none⟩)) (k := ?_)
  refine WL.load (v := .int .i64 c.p.kind) (ld1 (T := 3) (i := 0) hb4) (k := ?_)
  refine WL.nil ?_
  refine WX.seqN ?_
  refine WC.block ?_
  refine WC.seq ?_
  refine WC.region ?_
  refine WL.op (d := 10) (.bool (c.p.kind == 1)) (k := ?_)
  refine WL.op (d := 9) (.bool (c.p.kind == 1)) (k := ?_)
  refine WL.nil ?_
  refine WX.seqN ?_
  refine WC.cond (b := c.p.kind == 1) (ht := fun h25 => ?_) (hf := fun h25 => ?_)
  · have ph25 := eq_of_beq h25
    refine WC.region ?_
    refine WL.op (d := 11) (.pointer (some ⟨b1, 1, none⟩)) (k := ?_)
    refine WL.load (v := GOp.val c.p.op) (ldN (T := 29) (i := 1) (m := 10) (l := (Value.cells (GOp.val c.p.op)).toList) hb4) (k := ?_)
    refine WL.op (d := 13) (.pointer (some ⟨b14, 1, none⟩)) (k := ?_)
    refine WL.store (v := GOp.val c.p.op) (i := 1) (cs' := #[.int .i64 c.p.kind, .int .i64 c.p.op.kind, .int .i64 c.p.op.task.id, .int .i64 c.p.op.task.c, .int .i64 c.p.op.task.d, .int .i64 c.p.op.task.t, .int .i64 c.p.op.task.m, .bool c.p.op.sv, .int .i64 c.p.op.id, .int .i64 c.p.op.c, .int .i64 c.p.op.m, .int .i64 0, .int .i64 0, .int .i64 0, .slice none 0 0]) hb23 (k := fun w26 hb27 k28 => ?_)
    replace hb4 := k28.heap hb4 n20
    replace hb10 := k28.heap hb10 n21
    replace K := K.trans' k28 (fun i hi e => absurd (e ▸ hi) (Nat.not_lt.2 z19))
    clear hb23
    refine WL.nil ?_
    refine WX.blockN ?_
    refine WX.seqN ?_
    refine WC.seq ?_
    refine WC.region ?_
    refine WL.load (v := .agg #[.int .i64 c.p.kind, .int .i64 c.p.op.kind, .int .i64 c.p.op.task.id, .int .i64 c.p.op.task.c, .int .i64 c.p.op.task.d, .int .i64 c.p.op.task.t, .int .i64 c.p.op.task.m, .bool c.p.op.sv, .int .i64 c.p.op.id, .int .i64 c.p.op.c, .int .i64 c.p.op.m, .int .i64 0, .int .i64 0, .int .i64 0, .slice none 0 0]) (ldN (T := 32) (i := 0) (m := 15) (l := [.int .i64 c.p.kind, .int .i64 c.p.op.kind, .int .i64 c.p.op.task.id, .int .i64 c.p.op.task.c, .int .i64 c.p.op.task.d, .int .i64 c.p.op.task.t, .int .i64 c.p.op.task.m, .bool c.p.op.sv, .int .i64 c.p.op.id, .int .i64 c.p.op.c, .int .i64 c.p.op.m, .int .i64 0, .int .i64 0, .int .i64 0, .slice none 0 0]) hb27) (k := ?_)
    refine WL.store (v := .agg #[.int .i64 c.p.kind, .int .i64 c.p.op.kind, .int .i64 c.p.op.task.id, .int .i64 c.p.op.task.c, .int .i64 c.p.op.task.d, .int .i64 c.p.op.task.t, .int .i64 c.p.op.task.m, .bool c.p.op.sv, .int .i64 c.p.op.id, .int .i64 c.p.op.c, .int .i64 c.p.op.m, .int .i64 0, .int .i64 0, .int .i64 0, .slice none 0 0]) (i := 0) (cs' := #[.int .i64 c.p.kind, .int .i64 c.p.op.kind, .int .i64 c.p.op.task.id, .int .i64 c.p.op.task.c, .int .i64 c.p.op.task.d, .int .i64 c.p.op.task.t, .int .i64 c.p.op.task.m, .bool c.p.op.sv, .int .i64 c.p.op.id, .int .i64 c.p.op.c, .int .i64 c.p.op.m, .int .i64 0, .int .i64 0, .int .i64 0, .slice none 0 0]) hb10 (k := fun w29 hb30 k31 => ?_)
    replace hb4 := k31.heap hb4 n13
    replace hb27 := k31.heap hb27 (Ne.symm n21)
    replace K := K.trans' k31 (fun i hi e => absurd (e ▸ hi) (Nat.not_lt.2 z12))
    clear hb10
    refine WL.nil ?_
    refine WX.seqN ?_
    refine WC.ret ?_
    refine WX.ret (rs := [.cell 2 32]) [.agg #[.int .i64 c.p.kind, .int .i64 c.p.op.kind, .int .i64 c.p.op.task.id, .int .i64 c.p.op.task.c, .int .i64 c.p.op.task.d, .int .i64 c.p.op.task.t, .int .i64 c.p.op.task.m, .bool c.p.op.sv, .int .i64 c.p.op.id, .int .i64 c.p.op.c, .int .i64 c.p.op.m, .int .i64 0, .int .i64 0, .int .i64 0, .slice none 0 0]] (.agg #[.int .i64 c.p.kind, .int .i64 c.p.op.kind, .int .i64 c.p.op.task.id, .int .i64 c.p.op.task.c, .int .i64 c.p.op.task.d, .int .i64 c.p.op.task.t, .int .i64 c.p.op.task.m, .bool c.p.op.sv, .int .i64 c.p.op.id, .int .i64 c.p.op.c, .int .i64 c.p.op.m, .int .i64 0, .int .i64 0, .int .i64 0, .slice none 0 0]) ⟨⟨_, (by kernel_rfl), ldN (T := 32) (i := 0) (m := 15) (l := [.int .i64 c.p.kind, .int .i64 c.p.op.kind, .int .i64 c.p.op.task.id, .int .i64 c.p.op.task.c, .int .i64 c.p.op.task.d, .int .i64 c.p.op.task.t, .int .i64 c.p.op.task.m, .bool c.p.op.sv, .int .i64 c.p.op.id, .int .i64 c.p.op.c, .int .i64 c.p.op.m, .int .i64 0, .int .i64 0, .int .i64 0, .slice none 0 0]) hb30⟩, trivial⟩ (k := ?_)
    exact ⟨by simp [GCmd.bare, PCmd.bare, GOp.zero, ph25], K⟩
  · have ph25 := ne_of_beq_false h25
    refine WC.seq ?_
    refine WC.seq ?_
    refine WC.region ?_
    refine WL.op (d := 15) (.bool (c.p.kind == 2)) (k := ?_)
    refine WL.op (d := 14) (.bool (c.p.kind == 2)) (k := ?_)
    refine WL.nil ?_
    refine WX.seqN ?_
    refine WC.cond (b := c.p.kind == 2) (ht := fun h32 => ?_) (hf := fun h32 => ?_)
    · have ph32 := eq_of_beq h32
      refine WC.skip ?_
      refine WX.seqN ?_
      refine WC.rw (t := 14) (v := .bool true) (congrArg Value.bool h32) (k := ?_)
      refine WC.condT (k := ?_)
      refine WC.seq ?_
      refine WC.region ?_
      refine WL.op (d := 17) (.pointer (some ⟨b1, 11, none⟩)) (k := ?_)
      refine WL.load (v := .int .i64 c.p.id) (ld1 (T := 3) (i := 11) hb4) (k := ?_)
      refine WL.op (d := 19) (.pointer (some ⟨b14, 11, none⟩)) (k := ?_)
      refine WL.store (v := .int .i64 c.p.id) (i := 11) (cs' := #[.int .i64 c.p.kind, .int .i64 0, .int .i64 0, .int .i64 0, .int .i64 0, .int .i64 0, .int .i64 0, .bool false, .int .i64 0, .int .i64 0, .int .i64 0, .int .i64 c.p.id, .int .i64 0, .int .i64 0, .slice none 0 0]) hb23 (k := fun w33 hb34 k35 => ?_)
      replace hb4 := k35.heap hb4 n20
      replace hb10 := k35.heap hb10 n21
      replace K := K.trans' k35 (fun i hi e => absurd (e ▸ hi) (Nat.not_lt.2 z19))
      clear hb23
      refine WL.nil ?_
      refine WX.seqN ?_
      refine WC.region ?_
      refine WL.op (d := 20) (.pointer (some ⟨b1, 12, none⟩)) (k := ?_)
      refine WL.load (v := .int .i64 c.p.work) (ld1 (T := 2) (i := 12) hb4) (k := ?_)
      refine WL.op (d := 22) (.pointer (some ⟨b14, 12, none⟩)) (k := ?_)
      refine WL.store (v := .int .i64 c.p.work) (i := 12) (cs' := #[.int .i64 c.p.kind, .int .i64 0, .int .i64 0, .int .i64 0, .int .i64 0, .int .i64 0, .int .i64 0, .bool false, .int .i64 0, .int .i64 0, .int .i64 0, .int .i64 c.p.id, .int .i64 c.p.work, .int .i64 0, .slice none 0 0]) hb34 (k := fun w36 hb37 k38 => ?_)
      replace hb4 := k38.heap hb4 n20
      replace hb10 := k38.heap hb10 n21
      replace K := K.trans' k38 (fun i hi e => absurd (e ▸ hi) (Nat.not_lt.2 z19))
      clear hb34
      refine WL.nil ?_
      refine WX.blockN ?_
      refine WX.seqN ?_
      refine WC.seq ?_
      refine WC.region ?_
      refine WL.load (v := .agg #[.int .i64 c.p.kind, .int .i64 0, .int .i64 0, .int .i64 0, .int .i64 0, .int .i64 0, .int .i64 0, .bool false, .int .i64 0, .int .i64 0, .int .i64 0, .int .i64 c.p.id, .int .i64 c.p.work, .int .i64 0, .slice none 0 0]) (ldN (T := 32) (i := 0) (m := 15) (l := [.int .i64 c.p.kind, .int .i64 0, .int .i64 0, .int .i64 0, .int .i64 0, .int .i64 0, .int .i64 0, .bool false, .int .i64 0, .int .i64 0, .int .i64 0, .int .i64 c.p.id, .int .i64 c.p.work, .int .i64 0, .slice none 0 0]) hb37) (k := ?_)
      refine WL.store (v := .agg #[.int .i64 c.p.kind, .int .i64 0, .int .i64 0, .int .i64 0, .int .i64 0, .int .i64 0, .int .i64 0, .bool false, .int .i64 0, .int .i64 0, .int .i64 0, .int .i64 c.p.id, .int .i64 c.p.work, .int .i64 0, .slice none 0 0]) (i := 0) (cs' := #[.int .i64 c.p.kind, .int .i64 0, .int .i64 0, .int .i64 0, .int .i64 0, .int .i64 0, .int .i64 0, .bool false, .int .i64 0, .int .i64 0, .int .i64 0, .int .i64 c.p.id, .int .i64 c.p.work, .int .i64 0, .slice none 0 0]) hb10 (k := fun w39 hb40 k41 => ?_)
      replace hb4 := k41.heap hb4 n13
      replace hb37 := k41.heap hb37 (Ne.symm n21)
      replace K := K.trans' k41 (fun i hi e => absurd (e ▸ hi) (Nat.not_lt.2 z12))
      clear hb10
      refine WL.nil ?_
      refine WX.seqN ?_
      refine WC.ret ?_
      refine WX.ret (rs := [.cell 2 32]) [.agg #[.int .i64 c.p.kind, .int .i64 0, .int .i64 0, .int .i64 0, .int .i64 0, .int .i64 0, .int .i64 0, .bool false, .int .i64 0, .int .i64 0, .int .i64 0, .int .i64 c.p.id, .int .i64 c.p.work, .int .i64 0, .slice none 0 0]] (.agg #[.int .i64 c.p.kind, .int .i64 0, .int .i64 0, .int .i64 0, .int .i64 0, .int .i64 0, .int .i64 0, .bool false, .int .i64 0, .int .i64 0, .int .i64 0, .int .i64 c.p.id, .int .i64 c.p.work, .int .i64 0, .slice none 0 0]) ⟨⟨_, (by kernel_rfl), ldN (T := 32) (i := 0) (m := 15) (l := [.int .i64 c.p.kind, .int .i64 0, .int .i64 0, .int .i64 0, .int .i64 0, .int .i64 0, .int .i64 0, .bool false, .int .i64 0, .int .i64 0, .int .i64 0, .int .i64 c.p.id, .int .i64 c.p.work, .int .i64 0, .slice none 0 0]) hb40⟩, trivial⟩ (k := ?_)
      exact ⟨by simp [GCmd.bare, PCmd.bare, GOp.zero, ph25, ph32], K⟩
    · have ph32 := ne_of_beq_false h32
      refine WC.region ?_
      refine WL.op (d := 16) (.bool (c.p.kind == 3)) (k := ?_)
      refine WL.op (d := 14) (.bool (c.p.kind == 3)) (k := ?_)
      refine WL.nil ?_
      refine WX.seqN ?_
      refine WC.cond (b := c.p.kind == 3) (ht := fun h42 => ?_) (hf := fun h42 => ?_)
      · have ph42 := eq_of_beq h42
        refine WC.seq ?_
        refine WC.region ?_
        refine WL.op (d := 17) (.pointer (some ⟨b1, 11, none⟩)) (k := ?_)
        refine WL.load (v := .int .i64 c.p.id) (ld1 (T := 3) (i := 11) hb4) (k := ?_)
        refine WL.op (d := 19) (.pointer (some ⟨b14, 11, none⟩)) (k := ?_)
        refine WL.store (v := .int .i64 c.p.id) (i := 11) (cs' := #[.int .i64 c.p.kind, .int .i64 0, .int .i64 0, .int .i64 0, .int .i64 0, .int .i64 0, .int .i64 0, .bool false, .int .i64 0, .int .i64 0, .int .i64 0, .int .i64 c.p.id, .int .i64 0, .int .i64 0, .slice none 0 0]) hb23 (k := fun w43 hb44 k45 => ?_)
        replace hb4 := k45.heap hb4 n20
        replace hb10 := k45.heap hb10 n21
        replace K := K.trans' k45 (fun i hi e => absurd (e ▸ hi) (Nat.not_lt.2 z19))
        clear hb23
        refine WL.nil ?_
        refine WX.seqN ?_
        refine WC.region ?_
        refine WL.op (d := 20) (.pointer (some ⟨b1, 12, none⟩)) (k := ?_)
        refine WL.load (v := .int .i64 c.p.work) (ld1 (T := 2) (i := 12) hb4) (k := ?_)
        refine WL.op (d := 22) (.pointer (some ⟨b14, 12, none⟩)) (k := ?_)
        refine WL.store (v := .int .i64 c.p.work) (i := 12) (cs' := #[.int .i64 c.p.kind, .int .i64 0, .int .i64 0, .int .i64 0, .int .i64 0, .int .i64 0, .int .i64 0, .bool false, .int .i64 0, .int .i64 0, .int .i64 0, .int .i64 c.p.id, .int .i64 c.p.work, .int .i64 0, .slice none 0 0]) hb44 (k := fun w46 hb47 k48 => ?_)
        replace hb4 := k48.heap hb4 n20
        replace hb10 := k48.heap hb10 n21
        replace K := K.trans' k48 (fun i hi e => absurd (e ▸ hi) (Nat.not_lt.2 z19))
        clear hb44
        refine WL.nil ?_
        refine WX.blockN ?_
        refine WX.seqN ?_
        refine WC.seq ?_
        refine WC.region ?_
        refine WL.load (v := .agg #[.int .i64 c.p.kind, .int .i64 0, .int .i64 0, .int .i64 0, .int .i64 0, .int .i64 0, .int .i64 0, .bool false, .int .i64 0, .int .i64 0, .int .i64 0, .int .i64 c.p.id, .int .i64 c.p.work, .int .i64 0, .slice none 0 0]) (ldN (T := 32) (i := 0) (m := 15) (l := [.int .i64 c.p.kind, .int .i64 0, .int .i64 0, .int .i64 0, .int .i64 0, .int .i64 0, .int .i64 0, .bool false, .int .i64 0, .int .i64 0, .int .i64 0, .int .i64 c.p.id, .int .i64 c.p.work, .int .i64 0, .slice none 0 0]) hb47) (k := ?_)
        refine WL.store (v := .agg #[.int .i64 c.p.kind, .int .i64 0, .int .i64 0, .int .i64 0, .int .i64 0, .int .i64 0, .int .i64 0, .bool false, .int .i64 0, .int .i64 0, .int .i64 0, .int .i64 c.p.id, .int .i64 c.p.work, .int .i64 0, .slice none 0 0]) (i := 0) (cs' := #[.int .i64 c.p.kind, .int .i64 0, .int .i64 0, .int .i64 0, .int .i64 0, .int .i64 0, .int .i64 0, .bool false, .int .i64 0, .int .i64 0, .int .i64 0, .int .i64 c.p.id, .int .i64 c.p.work, .int .i64 0, .slice none 0 0]) hb10 (k := fun w49 hb50 k51 => ?_)
        replace hb4 := k51.heap hb4 n13
        replace hb47 := k51.heap hb47 (Ne.symm n21)
        replace K := K.trans' k51 (fun i hi e => absurd (e ▸ hi) (Nat.not_lt.2 z12))
        clear hb10
        refine WL.nil ?_
        refine WX.seqN ?_
        refine WC.ret ?_
        refine WX.ret (rs := [.cell 2 32]) [.agg #[.int .i64 c.p.kind, .int .i64 0, .int .i64 0, .int .i64 0, .int .i64 0, .int .i64 0, .int .i64 0, .bool false, .int .i64 0, .int .i64 0, .int .i64 0, .int .i64 c.p.id, .int .i64 c.p.work, .int .i64 0, .slice none 0 0]] (.agg #[.int .i64 c.p.kind, .int .i64 0, .int .i64 0, .int .i64 0, .int .i64 0, .int .i64 0, .int .i64 0, .bool false, .int .i64 0, .int .i64 0, .int .i64 0, .int .i64 c.p.id, .int .i64 c.p.work, .int .i64 0, .slice none 0 0]) ⟨⟨_, (by kernel_rfl), ldN (T := 32) (i := 0) (m := 15) (l := [.int .i64 c.p.kind, .int .i64 0, .int .i64 0, .int .i64 0, .int .i64 0, .int .i64 0, .int .i64 0, .bool false, .int .i64 0, .int .i64 0, .int .i64 0, .int .i64 c.p.id, .int .i64 c.p.work, .int .i64 0, .slice none 0 0]) hb50⟩, trivial⟩ (k := ?_)
        exact ⟨by simp [GCmd.bare, PCmd.bare, GOp.zero, ph25, ph32, ph42], K⟩
      · have ph42 := ne_of_beq_false h42
        refine WC.seq ?_
        refine WC.seq ?_
        refine WC.region ?_
        refine WL.op (d := 24) (.bool (c.p.kind == 4)) (k := ?_)
        refine WL.op (d := 23) (.bool (c.p.kind == 4)) (k := ?_)
        refine WL.nil ?_
        refine WX.seqN ?_
        refine WC.cond (b := c.p.kind == 4) (ht := fun h52 => ?_) (hf := fun h52 => ?_)
        · have ph52 := eq_of_beq h52
          refine WC.skip ?_
          refine WX.seqN ?_
          refine WC.rw (t := 23) (v := .bool true) (congrArg Value.bool h52) (k := ?_)
          refine WC.condT (k := ?_)
          refine WC.region ?_
          refine WL.op (d := 26) (.pointer (some ⟨b1, 13, none⟩)) (k := ?_)
          refine WL.load (v := .int .i64 c.p.n) (ld1 (T := 3) (i := 13) hb4) (k := ?_)
          refine WL.op (d := 28) (.pointer (some ⟨b14, 13, none⟩)) (k := ?_)
          refine WL.store (v := .int .i64 c.p.n) (i := 13) (cs' := #[.int .i64 c.p.kind, .int .i64 0, .int .i64 0, .int .i64 0, .int .i64 0, .int .i64 0, .int .i64 0, .bool false, .int .i64 0, .int .i64 0, .int .i64 0, .int .i64 0, .int .i64 0, .int .i64 c.p.n, .slice none 0 0]) hb23 (k := fun w53 hb54 k55 => ?_)
          replace hb4 := k55.heap hb4 n20
          replace hb10 := k55.heap hb10 n21
          replace K := K.trans' k55 (fun i hi e => absurd (e ▸ hi) (Nat.not_lt.2 z19))
          clear hb23
          refine WL.nil ?_
          refine WX.blockN ?_
          refine WX.seqN ?_
          refine WC.seq ?_
          refine WC.region ?_
          refine WL.load (v := .agg #[.int .i64 c.p.kind, .int .i64 0, .int .i64 0, .int .i64 0, .int .i64 0, .int .i64 0, .int .i64 0, .bool false, .int .i64 0, .int .i64 0, .int .i64 0, .int .i64 0, .int .i64 0, .int .i64 c.p.n, .slice none 0 0]) (ldN (T := 32) (i := 0) (m := 15) (l := [.int .i64 c.p.kind, .int .i64 0, .int .i64 0, .int .i64 0, .int .i64 0, .int .i64 0, .int .i64 0, .bool false, .int .i64 0, .int .i64 0, .int .i64 0, .int .i64 0, .int .i64 0, .int .i64 c.p.n, .slice none 0 0]) hb54) (k := ?_)
          refine WL.store (v := .agg #[.int .i64 c.p.kind, .int .i64 0, .int .i64 0, .int .i64 0, .int .i64 0, .int .i64 0, .int .i64 0, .bool false, .int .i64 0, .int .i64 0, .int .i64 0, .int .i64 0, .int .i64 0, .int .i64 c.p.n, .slice none 0 0]) (i := 0) (cs' := #[.int .i64 c.p.kind, .int .i64 0, .int .i64 0, .int .i64 0, .int .i64 0, .int .i64 0, .int .i64 0, .bool false, .int .i64 0, .int .i64 0, .int .i64 0, .int .i64 0, .int .i64 0, .int .i64 c.p.n, .slice none 0 0]) hb10 (k := fun w56 hb57 k58 => ?_)
          replace hb4 := k58.heap hb4 n13
          replace hb54 := k58.heap hb54 (Ne.symm n21)
          replace K := K.trans' k58 (fun i hi e => absurd (e ▸ hi) (Nat.not_lt.2 z12))
          clear hb10
          refine WL.nil ?_
          refine WX.seqN ?_
          refine WC.ret ?_
          refine WX.ret (rs := [.cell 2 32]) [.agg #[.int .i64 c.p.kind, .int .i64 0, .int .i64 0, .int .i64 0, .int .i64 0, .int .i64 0, .int .i64 0, .bool false, .int .i64 0, .int .i64 0, .int .i64 0, .int .i64 0, .int .i64 0, .int .i64 c.p.n, .slice none 0 0]] (.agg #[.int .i64 c.p.kind, .int .i64 0, .int .i64 0, .int .i64 0, .int .i64 0, .int .i64 0, .int .i64 0, .bool false, .int .i64 0, .int .i64 0, .int .i64 0, .int .i64 0, .int .i64 0, .int .i64 c.p.n, .slice none 0 0]) ⟨⟨_, (by kernel_rfl), ldN (T := 32) (i := 0) (m := 15) (l := [.int .i64 c.p.kind, .int .i64 0, .int .i64 0, .int .i64 0, .int .i64 0, .int .i64 0, .int .i64 0, .bool false, .int .i64 0, .int .i64 0, .int .i64 0, .int .i64 0, .int .i64 0, .int .i64 c.p.n, .slice none 0 0]) hb57⟩, trivial⟩ (k := ?_)
          exact ⟨by simp [GCmd.bare, PCmd.bare, GOp.zero, ph25, ph32, ph42, ph52], K⟩
        · have ph52 := ne_of_beq_false h52
          refine WC.region ?_
          refine WL.op (d := 25) (.bool (c.p.kind == 7)) (k := ?_)
          refine WL.op (d := 23) (.bool (c.p.kind == 7)) (k := ?_)
          refine WL.nil ?_
          refine WX.seqN ?_
          refine WC.cond (b := c.p.kind == 7) (ht := fun h59 => ?_) (hf := fun h59 => ?_)
          · have ph59 := eq_of_beq h59
            refine WC.region ?_
            refine WL.op (d := 26) (.pointer (some ⟨b1, 13, none⟩)) (k := ?_)
            refine WL.load (v := .int .i64 c.p.n) (ld1 (T := 3) (i := 13) hb4) (k := ?_)
            refine WL.op (d := 28) (.pointer (some ⟨b14, 13, none⟩)) (k := ?_)
            refine WL.store (v := .int .i64 c.p.n) (i := 13) (cs' := #[.int .i64 c.p.kind, .int .i64 0, .int .i64 0, .int .i64 0, .int .i64 0, .int .i64 0, .int .i64 0, .bool false, .int .i64 0, .int .i64 0, .int .i64 0, .int .i64 0, .int .i64 0, .int .i64 c.p.n, .slice none 0 0]) hb23 (k := fun w60 hb61 k62 => ?_)
            replace hb4 := k62.heap hb4 n20
            replace hb10 := k62.heap hb10 n21
            replace K := K.trans' k62 (fun i hi e => absurd (e ▸ hi) (Nat.not_lt.2 z19))
            clear hb23
            refine WL.nil ?_
            refine WX.blockN ?_
            refine WX.seqN ?_
            refine WC.seq ?_
            refine WC.region ?_
            refine WL.load (v := .agg #[.int .i64 c.p.kind, .int .i64 0, .int .i64 0, .int .i64 0, .int .i64 0, .int .i64 0, .int .i64 0, .bool false, .int .i64 0, .int .i64 0, .int .i64 0, .int .i64 0, .int .i64 0, .int .i64 c.p.n, .slice none 0 0]) (ldN (T := 32) (i := 0) (m := 15) (l := [.int .i64 c.p.kind, .int .i64 0, .int .i64 0, .int .i64 0, .int .i64 0, .int .i64 0, .int .i64 0, .bool false, .int .i64 0, .int .i64 0, .int .i64 0, .int .i64 0, .int .i64 0, .int .i64 c.p.n, .slice none 0 0]) hb61) (k := ?_)
            refine WL.store (v := .agg #[.int .i64 c.p.kind, .int .i64 0, .int .i64 0, .int .i64 0, .int .i64 0, .int .i64 0, .int .i64 0, .bool false, .int .i64 0, .int .i64 0, .int .i64 0, .int .i64 0, .int .i64 0, .int .i64 c.p.n, .slice none 0 0]) (i := 0) (cs' := #[.int .i64 c.p.kind, .int .i64 0, .int .i64 0, .int .i64 0, .int .i64 0, .int .i64 0, .int .i64 0, .bool false, .int .i64 0, .int .i64 0, .int .i64 0, .int .i64 0, .int .i64 0, .int .i64 c.p.n, .slice none 0 0]) hb10 (k := fun w63 hb64 k65 => ?_)
            replace hb4 := k65.heap hb4 n13
            replace hb61 := k65.heap hb61 (Ne.symm n21)
            replace K := K.trans' k65 (fun i hi e => absurd (e ▸ hi) (Nat.not_lt.2 z12))
            clear hb10
            refine WL.nil ?_
            refine WX.seqN ?_
            refine WC.ret ?_
            refine WX.ret (rs := [.cell 2 32]) [.agg #[.int .i64 c.p.kind, .int .i64 0, .int .i64 0, .int .i64 0, .int .i64 0, .int .i64 0, .int .i64 0, .bool false, .int .i64 0, .int .i64 0, .int .i64 0, .int .i64 0, .int .i64 0, .int .i64 c.p.n, .slice none 0 0]] (.agg #[.int .i64 c.p.kind, .int .i64 0, .int .i64 0, .int .i64 0, .int .i64 0, .int .i64 0, .int .i64 0, .bool false, .int .i64 0, .int .i64 0, .int .i64 0, .int .i64 0, .int .i64 0, .int .i64 c.p.n, .slice none 0 0]) ⟨⟨_, (by kernel_rfl), ldN (T := 32) (i := 0) (m := 15) (l := [.int .i64 c.p.kind, .int .i64 0, .int .i64 0, .int .i64 0, .int .i64 0, .int .i64 0, .int .i64 0, .bool false, .int .i64 0, .int .i64 0, .int .i64 0, .int .i64 0, .int .i64 0, .int .i64 c.p.n, .slice none 0 0]) hb64⟩, trivial⟩ (k := ?_)
            exact ⟨by simp [GCmd.bare, PCmd.bare, GOp.zero, ph25, ph32, ph42, ph52, ph59], K⟩
          · have ph59 := ne_of_beq_false h59
            refine WC.seq ?_
            refine WC.region ?_
            refine WL.op (d := 30) (.bool (c.p.kind == 5)) (k := ?_)
            refine WL.op (d := 29) (.bool (c.p.kind == 5)) (k := ?_)
            refine WL.nil ?_
            refine WX.seqN ?_
            refine WC.cond (b := c.p.kind == 5) (ht := fun h66 => ?_) (hf := fun h66 => ?_)
            · have ph66 := eq_of_beq h66
              refine WC.region ?_
              refine WL.op (d := 31) (.pointer (some ⟨b1, 11, none⟩)) (k := ?_)
              refine WL.load (v := .int .i64 c.p.id) (ld1 (T := 3) (i := 11) hb4) (k := ?_)
              refine WL.op (d := 33) (.pointer (some ⟨b14, 11, none⟩)) (k := ?_)
              refine WL.store (v := .int .i64 c.p.id) (i := 11) (cs' := #[.int .i64 c.p.kind, .int .i64 0, .int .i64 0, .int .i64 0, .int .i64 0, .int .i64 0, .int .i64 0, .bool false, .int .i64 0, .int .i64 0, .int .i64 0, .int .i64 c.p.id, .int .i64 0, .int .i64 0, .slice none 0 0]) hb23 (k := fun w67 hb68 k69 => ?_)
              replace hb4 := k69.heap hb4 n20
              replace hb10 := k69.heap hb10 n21
              replace K := K.trans' k69 (fun i hi e => absurd (e ▸ hi) (Nat.not_lt.2 z19))
              clear hb23
              refine WL.nil ?_
              refine WX.blockN ?_
              refine WX.seqN ?_
              refine WC.seq ?_
              refine WC.region ?_
              refine WL.load (v := .agg #[.int .i64 c.p.kind, .int .i64 0, .int .i64 0, .int .i64 0, .int .i64 0, .int .i64 0, .int .i64 0, .bool false, .int .i64 0, .int .i64 0, .int .i64 0, .int .i64 c.p.id, .int .i64 0, .int .i64 0, .slice none 0 0]) (ldN (T := 32) (i := 0) (m := 15) (l := [.int .i64 c.p.kind, .int .i64 0, .int .i64 0, .int .i64 0, .int .i64 0, .int .i64 0, .int .i64 0, .bool false, .int .i64 0, .int .i64 0, .int .i64 0, .int .i64 c.p.id, .int .i64 0, .int .i64 0, .slice none 0 0]) hb68) (k := ?_)
              refine WL.store (v := .agg #[.int .i64 c.p.kind, .int .i64 0, .int .i64 0, .int .i64 0, .int .i64 0, .int .i64 0, .int .i64 0, .bool false, .int .i64 0, .int .i64 0, .int .i64 0, .int .i64 c.p.id, .int .i64 0, .int .i64 0, .slice none 0 0]) (i := 0) (cs' := #[.int .i64 c.p.kind, .int .i64 0, .int .i64 0, .int .i64 0, .int .i64 0, .int .i64 0, .int .i64 0, .bool false, .int .i64 0, .int .i64 0, .int .i64 0, .int .i64 c.p.id, .int .i64 0, .int .i64 0, .slice none 0 0]) hb10 (k := fun w70 hb71 k72 => ?_)
              replace hb4 := k72.heap hb4 n13
              replace hb68 := k72.heap hb68 (Ne.symm n21)
              replace K := K.trans' k72 (fun i hi e => absurd (e ▸ hi) (Nat.not_lt.2 z12))
              clear hb10
              refine WL.nil ?_
              refine WX.seqN ?_
              refine WC.ret ?_
              refine WX.ret (rs := [.cell 2 32]) [.agg #[.int .i64 c.p.kind, .int .i64 0, .int .i64 0, .int .i64 0, .int .i64 0, .int .i64 0, .int .i64 0, .bool false, .int .i64 0, .int .i64 0, .int .i64 0, .int .i64 c.p.id, .int .i64 0, .int .i64 0, .slice none 0 0]] (.agg #[.int .i64 c.p.kind, .int .i64 0, .int .i64 0, .int .i64 0, .int .i64 0, .int .i64 0, .int .i64 0, .bool false, .int .i64 0, .int .i64 0, .int .i64 0, .int .i64 c.p.id, .int .i64 0, .int .i64 0, .slice none 0 0]) ⟨⟨_, (by kernel_rfl), ldN (T := 32) (i := 0) (m := 15) (l := [.int .i64 c.p.kind, .int .i64 0, .int .i64 0, .int .i64 0, .int .i64 0, .int .i64 0, .int .i64 0, .bool false, .int .i64 0, .int .i64 0, .int .i64 0, .int .i64 c.p.id, .int .i64 0, .int .i64 0, .slice none 0 0]) hb71⟩, trivial⟩ (k := ?_)
              exact ⟨by simp [GCmd.bare, PCmd.bare, GOp.zero, ph25, ph32, ph42, ph52, ph59, ph66], K⟩
            · have ph66 := ne_of_beq_false h66
              refine WC.seq ?_
              refine WC.region ?_
              refine WL.op (d := 35) (.bool (c.p.kind == 8)) (k := ?_)
              refine WL.op (d := 34) (.bool (c.p.kind == 8)) (k := ?_)
              refine WL.nil ?_
              refine WX.seqN ?_
              refine WC.cond (b := c.p.kind == 8) (ht := fun h73 => ?_) (hf := fun h73 => ?_)
              · have ph73 := eq_of_beq h73
                refine WC.region ?_
                refine WL.op (d := 36) (.pointer (some ⟨b1, 14, none⟩)) (k := ?_)
                refine WL.load (v := .slice c.A c.p.fs.length c.cap) (ld1 (T := 30) (i := 14) hb4) (k := ?_)
                refine WL.op (d := 38) (.pointer (some ⟨b14, 14, none⟩)) (k := ?_)
                refine WL.store (v := .slice c.A c.p.fs.length c.cap) (i := 14) (cs' := #[.int .i64 c.p.kind, .int .i64 0, .int .i64 0, .int .i64 0, .int .i64 0, .int .i64 0, .int .i64 0, .bool false, .int .i64 0, .int .i64 0, .int .i64 0, .int .i64 0, .int .i64 0, .int .i64 0, .slice c.A c.p.fs.length c.cap]) hb23 (k := fun w74 hb75 k76 => ?_)
                replace hb4 := k76.heap hb4 n20
                replace hb10 := k76.heap hb10 n21
                replace K := K.trans' k76 (fun i hi e => absurd (e ▸ hi) (Nat.not_lt.2 z19))
                clear hb23
                refine WL.nil ?_
                refine WX.blockN ?_
                refine WX.seqN ?_
                refine WC.seq ?_
                refine WC.region ?_
                refine WL.load (v := .agg #[.int .i64 c.p.kind, .int .i64 0, .int .i64 0, .int .i64 0, .int .i64 0, .int .i64 0, .int .i64 0, .bool false, .int .i64 0, .int .i64 0, .int .i64 0, .int .i64 0, .int .i64 0, .int .i64 0, .slice c.A c.p.fs.length c.cap]) (ldN (T := 32) (i := 0) (m := 15) (l := [.int .i64 c.p.kind, .int .i64 0, .int .i64 0, .int .i64 0, .int .i64 0, .int .i64 0, .int .i64 0, .bool false, .int .i64 0, .int .i64 0, .int .i64 0, .int .i64 0, .int .i64 0, .int .i64 0, .slice c.A c.p.fs.length c.cap]) hb75) (k := ?_)
                refine WL.store (v := .agg #[.int .i64 c.p.kind, .int .i64 0, .int .i64 0, .int .i64 0, .int .i64 0, .int .i64 0, .int .i64 0, .bool false, .int .i64 0, .int .i64 0, .int .i64 0, .int .i64 0, .int .i64 0, .int .i64 0, .slice c.A c.p.fs.length c.cap]) (i := 0) (cs' := #[.int .i64 c.p.kind, .int .i64 0, .int .i64 0, .int .i64 0, .int .i64 0, .int .i64 0, .int .i64 0, .bool false, .int .i64 0, .int .i64 0, .int .i64 0, .int .i64 0, .int .i64 0, .int .i64 0, .slice c.A c.p.fs.length c.cap]) hb10 (k := fun w77 hb78 k79 => ?_)
                replace hb4 := k79.heap hb4 n13
                replace hb75 := k79.heap hb75 (Ne.symm n21)
                replace K := K.trans' k79 (fun i hi e => absurd (e ▸ hi) (Nat.not_lt.2 z12))
                clear hb10
                refine WL.nil ?_
                refine WX.seqN ?_
                refine WC.ret ?_
                refine WX.ret (rs := [.cell 2 32]) [.agg #[.int .i64 c.p.kind, .int .i64 0, .int .i64 0, .int .i64 0, .int .i64 0, .int .i64 0, .int .i64 0, .bool false, .int .i64 0, .int .i64 0, .int .i64 0, .int .i64 0, .int .i64 0, .int .i64 0, .slice c.A c.p.fs.length c.cap]] (.agg #[.int .i64 c.p.kind, .int .i64 0, .int .i64 0, .int .i64 0, .int .i64 0, .int .i64 0, .int .i64 0, .bool false, .int .i64 0, .int .i64 0, .int .i64 0, .int .i64 0, .int .i64 0, .int .i64 0, .slice c.A c.p.fs.length c.cap]) ⟨⟨_, (by kernel_rfl), ldN (T := 32) (i := 0) (m := 15) (l := [.int .i64 c.p.kind, .int .i64 0, .int .i64 0, .int .i64 0, .int .i64 0, .int .i64 0, .int .i64 0, .bool false, .int .i64 0, .int .i64 0, .int .i64 0, .int .i64 0, .int .i64 0, .int .i64 0, .slice c.A c.p.fs.length c.cap]) hb78⟩, trivial⟩ (k := ?_)
                exact ⟨by simp [GCmd.bare, PCmd.bare, GOp.zero, ph25, ph32, ph42, ph52, ph59, ph66, ph73], K⟩
              · have ph73 := ne_of_beq_false h73
                refine WC.skip ?_
                refine WX.blockN ?_
                refine WX.seqN ?_
                refine WC.seq ?_
                refine WC.region ?_
                refine WL.load (v := .agg #[.int .i64 c.p.kind, .int .i64 0, .int .i64 0, .int .i64 0, .int .i64 0, .int .i64 0, .int .i64 0, .bool false, .int .i64 0, .int .i64 0, .int .i64 0, .int .i64 0, .int .i64 0, .int .i64 0, .slice none 0 0]) (ldN (T := 32) (i := 0) (m := 15) (l := [.int .i64 c.p.kind, .int .i64 0, .int .i64 0, .int .i64 0, .int .i64 0, .int .i64 0, .int .i64 0, .bool false, .int .i64 0, .int .i64 0, .int .i64 0, .int .i64 0, .int .i64 0, .int .i64 0, .slice none 0 0]) hb23) (k := ?_)
                refine WL.store (v := .agg #[.int .i64 c.p.kind, .int .i64 0, .int .i64 0, .int .i64 0, .int .i64 0, .int .i64 0, .int .i64 0, .bool false, .int .i64 0, .int .i64 0, .int .i64 0, .int .i64 0, .int .i64 0, .int .i64 0, .slice none 0 0]) (i := 0) (cs' := #[.int .i64 c.p.kind, .int .i64 0, .int .i64 0, .int .i64 0, .int .i64 0, .int .i64 0, .int .i64 0, .bool false, .int .i64 0, .int .i64 0, .int .i64 0, .int .i64 0, .int .i64 0, .int .i64 0, .slice none 0 0]) hb10 (k := fun w80 hb81 k82 => ?_)
                replace hb4 := k82.heap hb4 n13
                replace hb23 := k82.heap hb23 (Ne.symm n21)
                replace K := K.trans' k82 (fun i hi e => absurd (e ▸ hi) (Nat.not_lt.2 z12))
                clear hb10
                refine WL.nil ?_
                refine WX.seqN ?_
                refine WC.ret ?_
                refine WX.ret (rs := [.cell 2 32]) [.agg #[.int .i64 c.p.kind, .int .i64 0, .int .i64 0, .int .i64 0, .int .i64 0, .int .i64 0, .int .i64 0, .bool false, .int .i64 0, .int .i64 0, .int .i64 0, .int .i64 0, .int .i64 0, .int .i64 0, .slice none 0 0]] (.agg #[.int .i64 c.p.kind, .int .i64 0, .int .i64 0, .int .i64 0, .int .i64 0, .int .i64 0, .int .i64 0, .bool false, .int .i64 0, .int .i64 0, .int .i64 0, .int .i64 0, .int .i64 0, .int .i64 0, .slice none 0 0]) ⟨⟨_, (by kernel_rfl), ldN (T := 32) (i := 0) (m := 15) (l := [.int .i64 c.p.kind, .int .i64 0, .int .i64 0, .int .i64 0, .int .i64 0, .int .i64 0, .int .i64 0, .bool false, .int .i64 0, .int .i64 0, .int .i64 0, .int .i64 0, .int .i64 0, .int .i64 0, .slice none 0 0]) hb81⟩, trivial⟩ (k := ?_)
                exact ⟨by simp [GCmd.bare, PCmd.bare, GOp.zero, ph25, ph32, ph42, ph52, ph59, ph66, ph73], K⟩

set_option maxRecDepth 100000 in
set_option maxHeartbeats 4000000 in
theorem sCheck_c {c : GCmd} {w : World} (hc : SlAt fateC 2 50 c.A c.p.fs w) (lc : c.p.fs.length ≤ 1000000000) : Calls Try.prog 9 #[c.val] w fun e w' => e = .returned (.bool (cokB c.p)) ∧ Adds w w' := by
  have K : Keeps (fun _ => False) w w := Keeps.refl _ w
  refine Calls.start Try.func9 rfl (by kernel_rfl) ?_
  refine WC.seq ?_
  refine WC.region ?_
  refine WL.new (d := 1) (T := 32) (Value.cells (GCmd.val c)) (k := fun b1 w2 g3 hb4 k5 => ?_)
  have z6 := Nat.le_trans K.size g3
  replace K := K.trans (k5.any _)
  refine WL.op (d := 2) (.bool false) (k := ?_)
  refine WL.nil ?_
  refine WX.seqN ?_
  refine WC.seq ?_
  refine WC.region ?_
  refine WL.op (d := 3) (.func (.func 20) #[] #[]) (k := ?_)
  refine WL.nil ?_
  refine WX.seqN ?_
  refine WC.seq ?_
  refine WC.block ?_
  refine WC.seq ?_
  refine WC.quiet (k := ?_)
  refine WQ.load (v := GCmd.val c) (fun w_ k_ => ldN (T := 32) (i := 0) (m := 15) (l := (Value.cells (GCmd.val c)).toList) (k_.heap hb4 id)) (k := ?_)
  refine WQ.load (v := GCmd.val c) (fun w_ k_ => ldN (T := 32) (i := 0) (m := 15) (l := (Value.cells (GCmd.val c)).toList) (k_.heap hb4 id)) (k := ?_)
  have hb7 := bare_sl hc
  have bl8 := bare_le c
  refine WQ.callG (d := 7) (f := 22) (args := #[GCmd.val c]) (v := GCmd.val (GCmd.bare c)) (fun w_ k_ => sBare_c c w_) addsR (k := ?_)
  refine WQ.callG (d := 8) (f := 11) (args := #[GCmd.val c, GCmd.val (GCmd.bare c)]) (v := .bool (decide (c.p = (GCmd.bare c).p))) (fun w_ k_ => sSame_c (x := c) (y := (GCmd.bare c)) ((hc.adds K).adds k_) ((hb7.adds K).adds k_) (by omega) (by omega)) addsR (k := ?_)
  refine WQ.op (d := 9) (.bool (!(decide (c.p = (GCmd.bare c).p)))) (k := ?_)
  refine WQ.op (d := 10) (.bool (!(decide (c.p = (GCmd.bare c).p)))) (k := ?_)
  refine bsplit (!(decide (c.p = (GCmd.bare c).p))) (fun h9 => ?_) (fun h9 => ?_)
  · have h10 : (decide (c.p = (GCmd.bare c).p)) = false := Bool.not_inj (y := false) h9
    have ph10 := of_decide_eq_false h10
    refine WQ.rw (t := 10) (v := .bool true) (congrArg Value.bool h9) (k := ?_)
    refine WQ.skip (d := 11) (k := ?_)
    refine WQ.skip (d := 12) (k := ?_)
    refine WQ.skip (d := 13) (k := ?_)
    refine WQ.op (d := 14) (.bool true) (k := ?_)
    refine WQ.op (d := 15) (.bool true) (k := ?_)
    refine WQ.skip (d := 16) (k := ?_)
    refine WQ.skip (d := 17) (k := ?_)
    refine WQ.skip (d := 18) (k := ?_)
    refine WQ.op (d := 19) (.bool true) (k := ?_)
    refine WQ.op (d := 4) (.bool true) (k := ?_)
    refine WQ.nilX (fun w11 k12 => ?_)
    replace hb4 := k12.heap hb4 id
    replace K := K.trans (k12.any _)
    refine WX.seqN ?_
    refine WC.condT (k := ?_)
    refine WC.seq ?_
    refine WC.region ?_
    refine WL.op (d := 2) (.bool false) (k := ?_)
    refine WL.nil ?_
    refine WX.seqN ?_
    refine WC.ret ?_
    refine WX.blockR ?_
    refine WX.seqR ?_
    refine WX.ret (rs := [.tmp 2]) [.bool false] (.bool false) ⟨(by kernel_rfl), trivial⟩ (k := ?_)
    exact ⟨ret_bool (cok_ne ph10), K⟩
  · have h13 : (decide (c.p = (GCmd.bare c).p)) = true := Bool.not_inj (y := true) h9
    have ph13 := of_decide_eq_true h13
    refine WQ.rw (t := 10) (v := .bool false) (congrArg Value.bool h9) (k := ?_)
    refine WQ.op (d := 11) (.pointer (some ⟨b1, 0, none⟩)) (k := ?_)
    refine WQ.load (v := .int .i64 c.p.kind) (fun w_ k_ => ld1 (T := 3) (i := 0) (k_.heap hb4 id)) (k := ?_)
    refine WQ.op (d := 13) (.bool (decide (c.p.kind < 1))) (k := ?_)
    refine WQ.op (d := 14) (.bool (decide (c.p.kind < 1))) (k := ?_)
    refine WQ.op (d := 15) (.bool (decide (c.p.kind < 1))) (k := ?_)
    refine bsplit (decide (c.p.kind < 1)) (fun h14 => ?_) (fun h14 => ?_)
    · have ph14 := of_decide_eq_true h14
      refine WQ.rw (t := 15) (v := .bool true) (congrArg Value.bool h14) (k := ?_)
      refine WQ.skip (d := 16) (k := ?_)
      refine WQ.skip (d := 17) (k := ?_)
      refine WQ.skip (d := 18) (k := ?_)
      refine WQ.op (d := 19) (.bool true) (k := ?_)
      refine WQ.op (d := 4) (.bool true) (k := ?_)
      refine WQ.nilX (fun w15 k16 => ?_)
      replace hb4 := k16.heap hb4 id
      replace K := K.trans (k16.any _)
      refine WX.seqN ?_
      refine WC.condT (k := ?_)
      refine WC.seq ?_
      refine WC.region ?_
      refine WL.op (d := 2) (.bool false) (k := ?_)
      refine WL.nil ?_
      refine WX.seqN ?_
      refine WC.ret ?_
      refine WX.blockR ?_
      refine WX.seqR ?_
      refine WX.ret (rs := [.tmp 2]) [.bool false] (.bool false) ⟨(by kernel_rfl), trivial⟩ (k := ?_)
      exact ⟨ret_bool (cok_rng (fun k => by simp only [PCmd.rngs] at k; omega)), K⟩
    · have ph14 := of_decide_eq_false h14
      refine WQ.rw (t := 15) (v := .bool false) (congrArg Value.bool h14) (k := ?_)
      refine WQ.op (d := 16) (.pointer (some ⟨b1, 0, none⟩)) (k := ?_)
      refine WQ.load (v := .int .i64 c.p.kind) (fun w_ k_ => ld1 (T := 3) (i := 0) (k_.heap hb4 id)) (k := ?_)
      refine WQ.op (d := 18) (.bool (decide (c.p.kind > 9))) (k := ?_)
      refine WQ.op (d := 19) (.bool (decide (c.p.kind > 9))) (k := ?_)
      refine WQ.op (d := 4) (.bool (decide (c.p.kind > 9))) (k := ?_)
      refine WQ.nilX (fun w17 k18 => ?_)
      replace hb4 := k18.heap hb4 id
      replace K := K.trans (k18.any _)
      refine WX.seqN ?_
      refine WC.cond (b := decide (c.p.kind > 9)) (ht := fun h19 => ?_) (hf := fun h19 => ?_)
      · have ph19 := of_decide_eq_true h19
        refine WC.seq ?_
        refine WC.region ?_
        refine WL.op (d := 2) (.bool false) (k := ?_)
        refine WL.nil ?_
        refine WX.seqN ?_
        refine WC.ret ?_
        refine WX.blockR ?_
        refine WX.seqR ?_
        refine WX.ret (rs := [.tmp 2]) [.bool false] (.bool false) ⟨(by kernel_rfl), trivial⟩ (k := ?_)
        exact ⟨ret_bool (cok_rng (fun k => by simp only [PCmd.rngs] at k; omega)), K⟩
      · have ph19 := of_decide_eq_false h19
        refine WC.seq ?_
        refine WC.region ?_
        refine WL.op (d := 21) (.pointer (some ⟨b1, 0, none⟩)) (k := ?_)
        refine WL.load (v := .int .i64 c.p.kind) (ld1 (T := 3) (i := 0) hb4) (k := ?_)
        refine WL.op (d := 23) (.bool (c.p.kind == 1)) (k := ?_)
        refine WL.op (d := 20) (.bool (c.p.kind == 1)) (k := ?_)
        refine WL.nil ?_
        refine WX.seqN ?_
        refine WC.cond (b := c.p.kind == 1) (ht := fun h20 => ?_) (hf := fun h20 => ?_)
        · have ph20 := eq_of_beq h20
          refine WC.seq ?_
          refine WC.region ?_
          refine WL.op (d := 24) (.pointer (some ⟨b1, 1, none⟩)) (k := ?_)
          refine WL.load (v := GOp.val c.p.op) (ldN (T := 29) (i := 1) (m := 10) (l := (Value.cells (GOp.val c.p.op)).toList) hb4) (k := ?_)
          refine WL.callG (d := 26) (f := 23) (args := #[GOp.val c.p.op]) (pOCheck_c c.p.op w17) (k := fun e_ w21 h_ => ⟨.bool (decide (GOp.ok c.p.op)), h_.1, ?_⟩)
          have k22 := h_.2; clear h_
          replace hb4 := k22.heap hb4 id
          replace K := K.trans (k22.any _)
          refine WL.op (d := 2) (.bool (decide (GOp.ok c.p.op))) (k := ?_)
          refine WL.nil ?_
          refine WX.seqN ?_
          refine WC.ret ?_
          refine WX.blockR ?_
          refine WX.seqR ?_
          refine WX.ret (rs := [.tmp 2]) [.bool (decide (GOp.ok c.p.op))] (.bool (decide (GOp.ok c.p.op))) ⟨(by kernel_rfl), trivial⟩ (k := ?_)
          exact ⟨ret_bool (cok_op ph13 (by omega)), K⟩
        · have ph20 := ne_of_beq_false h20
          refine WC.skip ?_
          refine WX.blockN ?_
          refine WX.seqN ?_
          refine WC.seq ?_
          refine WC.region ?_
          refine WL.op (d := 27) (.pointer (some ⟨b1, 11, none⟩)) (k := ?_)
          refine WL.load (v := .int .i64 c.p.id) (ld1 (T := 3) (i := 11) hb4) (k := ?_)
          refine WL.callG (d := 29) (f := 21) (args := #[.int .i64 c.p.id, .int .i64 1023]) (sWithin_c c.p.id 1023 w17) (k := fun e_ w23 h_ => ⟨.bool (decide (0 ≤ c.p.id ∧ c.p.id ≤ 1023)), h_.1, ?_⟩)
          have k24 := h_.2; clear h_
          replace hb4 := k24.heap hb4 id
          replace K := K.trans (k24.any _)
          refine WL.op (d := 30) (.bool (decide (0 ≤ c.p.id ∧ c.p.id ≤ 1023))) (k := ?_)
          refine bsplit (decide (0 ≤ c.p.id ∧ c.p.id ≤ 1023)) (fun h25 => ?_) (fun h25 => ?_)
          · have ph25 := of_decide_eq_true h25
            refine WL.rw (t := 30) (v := .bool true) (congrArg Value.bool h25) (k := ?_)
            refine WL.op (d := 31) (.pointer (some ⟨b1, 12, none⟩)) (k := ?_)
            refine WL.load (v := .int .i64 c.p.work) (ld1 (T := 2) (i := 12) hb4) (k := ?_)
            refine WL.callG (d := 33) (f := 21) (args := #[.int .i64 c.p.work, .int .i64 2147483648]) (sWithin_c c.p.work 2147483648 w23) (k := fun e_ w26 h_ => ⟨.bool (decide (0 ≤ c.p.work ∧ c.p.work ≤ 2147483648)), h_.1, ?_⟩)
            have k27 := h_.2; clear h_
            replace hb4 := k27.heap hb4 id
            replace K := K.trans (k27.any _)
            refine WL.op (d := 34) (.bool (decide (0 ≤ c.p.work ∧ c.p.work ≤ 2147483648))) (k := ?_)
            refine WL.op (d := 35) (.bool (decide (0 ≤ c.p.work ∧ c.p.work ≤ 2147483648))) (k := ?_)
            refine bsplit (decide (0 ≤ c.p.work ∧ c.p.work ≤ 2147483648)) (fun h28 => ?_) (fun h28 => ?_)
            · have ph28 := of_decide_eq_true h28
              refine WL.rw (t := 35) (v := .bool true) (congrArg Value.bool h28) (k := ?_)
              refine WL.op (d := 36) (.pointer (some ⟨b1, 13, none⟩)) (k := ?_)
              refine WL.load (v := .int .i64 c.p.n) (ld1 (T := 3) (i := 13) hb4) (k := ?_)
              refine WL.callG (d := 38) (f := 21) (args := #[.int .i64 c.p.n, .int .i64 1048576]) (sWithin_c c.p.n 1048576 w26) (k := fun e_ w29 h_ => ⟨.bool (decide (0 ≤ c.p.n ∧ c.p.n ≤ 1048576)), h_.1, ?_⟩)
              have k30 := h_.2; clear h_
              replace hb4 := k30.heap hb4 id
              replace K := K.trans (k30.any _)
              refine WL.op (d := 39) (.bool (decide (0 ≤ c.p.n ∧ c.p.n ≤ 1048576))) (k := ?_)
              refine WL.op (d := 40) (.bool (decide (0 ≤ c.p.n ∧ c.p.n ≤ 1048576))) (k := ?_)
              refine bsplit (decide (0 ≤ c.p.n ∧ c.p.n ≤ 1048576)) (fun h31 => ?_) (fun h31 => ?_)
              · have ph31 := of_decide_eq_true h31
                refine WL.rw (t := 40) (v := .bool true) (congrArg Value.bool h31) (k := ?_)
                refine WL.op (d := 41) (.pointer (some ⟨b1, 14, none⟩)) (k := ?_)
                refine WL.load (v := .slice c.A c.p.fs.length c.cap) (ld1 (T := 30) (i := 14) hb4) (k := ?_)
                refine WL.op (d := 43) (.int .i64 (c.p.fs.length : Int)) (k := ?_)
                refine WL.op (d := 44) (.bool (decide ((c.p.fs.length : Int) ≤ 64))) (k := ?_)
                refine WL.op (d := 45) (.bool (decide ((c.p.fs.length : Int) ≤ 64))) (k := ?_)
                refine WL.op (d := 46) (.bool (decide ((c.p.fs.length : Int) ≤ 64))) (k := ?_)
                refine bsplit (decide ((c.p.fs.length : Int) ≤ 64)) (fun h32 => ?_) (fun h32 => ?_)
                · have ph32 := of_decide_eq_true h32
                  refine WL.rw (t := 46) (v := .bool true) (congrArg Value.bool h32) (k := ?_)
                  refine WL.op (d := 47) (.pointer (some ⟨b1, 14, none⟩)) (k := ?_)
                  refine WL.load (v := .slice c.A c.p.fs.length c.cap) (ld1 (T := 30) (i := 14) hb4) (k := ?_)
                  refine WL.op (d := 49) (.func (.func 20) #[] #[]) (k := ?_)
                  refine WL.callG (d := 50) (f := 24) (args := #[.slice c.A c.p.fs.length c.cap, .func (.func 20) #[] #[]]) (sContF_c (cp := c.cap) (hc.adds K) (by omega)) (k := fun e_ w33 h_ => ⟨.bool (!(okFs c.p.fs)), h_.1, ?_⟩)
                  have k34 := h_.2; clear h_
                  replace hb4 := k34.heap hb4 id
                  replace K := K.trans (k34.any _)
                  refine WL.op (d := 51) (.bool (!(!(okFs c.p.fs)))) (k := ?_)
                  refine WL.op (d := 52) (.bool (!(!(okFs c.p.fs)))) (k := ?_)
                  refine WL.op (d := 2) (.bool (!(!(okFs c.p.fs)))) (k := ?_)
                  refine WL.nil ?_
                  refine WX.seqN ?_
                  refine WC.ret ?_
                  refine WX.ret (rs := [.tmp 2]) [.bool (!(!(okFs c.p.fs)))] (.bool (!(!(okFs c.p.fs)))) ⟨(by kernel_rfl), trivial⟩ (k := ?_)
                  exact ⟨ret_bool ((Bool.not_not _).trans (cok_end ph13 (by simp only [PCmd.rngs]; omega) (by omega))), K⟩
                · have ph32 := of_decide_eq_false h32
                  refine WL.rw (t := 46) (v := .bool false) (congrArg Value.bool h32) (k := ?_)
                  refine WL.skip (d := 47) (k := ?_)
                  refine WL.skip (d := 48) (k := ?_)
                  refine WL.skip (d := 49) (k := ?_)
                  refine WL.skip (d := 50) (k := ?_)
                  refine WL.skip (d := 51) (k := ?_)
                  refine WL.op (d := 52) (.bool false) (k := ?_)
                  refine WL.op (d := 2) (.bool false) (k := ?_)
                  refine WL.nil ?_
                  refine WX.seqN ?_
                  refine WC.ret ?_
                  refine WX.ret (rs := [.tmp 2]) [.bool false] (.bool false) ⟨(by kernel_rfl), trivial⟩ (k := ?_)
                  exact ⟨ret_bool (cok_rng (fun k => by simp only [PCmd.rngs] at k; omega)), K⟩
              · have ph31 := of_decide_eq_false h31
                refine WL.rw (t := 40) (v := .bool false) (congrArg Value.bool h31) (k := ?_)
                refine WL.skip (d := 41) (k := ?_)
                refine WL.skip (d := 42) (k := ?_)
                refine WL.skip (d := 43) (k := ?_)
                refine WL.skip (d := 44) (k := ?_)
                refine WL.op (d := 45) (.bool false) (k := ?_)
                refine WL.op (d := 46) (.bool false) (k := ?_)
                refine WL.skip (d := 47) (k := ?_)
                refine WL.skip (d := 48) (k := ?_)
                refine WL.skip (d := 49) (k := ?_)
                refine WL.skip (d := 50) (k := ?_)
                refine WL.skip (d := 51) (k := ?_)
                refine WL.op (d := 52) (.bool false) (k := ?_)
                refine WL.op (d := 2) (.bool false) (k := ?_)
                refine WL.nil ?_
                refine WX.seqN ?_
                refine WC.ret ?_
                refine WX.ret (rs := [.tmp 2]) [.bool false] (.bool false) ⟨(by kernel_rfl), trivial⟩ (k := ?_)
                exact ⟨ret_bool (cok_rng (fun k => by simp only [PCmd.rngs] at k; omega)), K⟩
            · have ph28 := of_decide_eq_false h28
              refine WL.rw (t := 35) (v := .bool false) (congrArg Value.bool h28) (k := ?_)
              refine WL.skip (d := 36) (k := ?_)
              refine WL.skip (d := 37) (k := ?_)
              refine WL.skip (d := 38) (k := ?_)
              refine WL.op (d := 39) (.bool false) (k := ?_)
              refine WL.op (d := 40) (.bool false) (k := ?_)
              refine WL.skip (d := 41) (k := ?_)
              refine WL.skip (d := 42) (k := ?_)
              refine WL.skip (d := 43) (k := ?_)
              refine WL.skip (d := 44) (k := ?_)
              refine WL.op (d := 45) (.bool false) (k := ?_)
              refine WL.op (d := 46) (.bool false) (k := ?_)
              refine WL.skip (d := 47) (k := ?_)
              refine WL.skip (d := 48) (k := ?_)
              refine WL.skip (d := 49) (k := ?_)
              refine WL.skip (d := 50) (k := ?_)
              refine WL.skip (d := 51) (k := ?_)
              refine WL.op (d := 52) (.bool false) (k := ?_)
              refine WL.op (d := 2) (.bool false) (k := ?_)
              refine WL.nil ?_
              refine WX.seqN ?_
              refine WC.ret ?_
              refine WX.ret (rs := [.tmp 2]) [.bool false] (.bool false) ⟨(by kernel_rfl), trivial⟩ (k := ?_)
              exact ⟨ret_bool (cok_rng (fun k => by simp only [PCmd.rngs] at k; omega)), K⟩
          · have ph25 := of_decide_eq_false h25
            refine WL.rw (t := 30) (v := .bool false) (congrArg Value.bool h25) (k := ?_)
            refine WL.skip (d := 31) (k := ?_)
            refine WL.skip (d := 32) (k := ?_)
            refine WL.skip (d := 33) (k := ?_)
            refine WL.op (d := 34) (.bool false) (k := ?_)
            refine WL.op (d := 35) (.bool false) (k := ?_)
            refine WL.skip (d := 36) (k := ?_)
            refine WL.skip (d := 37) (k := ?_)
            refine WL.skip (d := 38) (k := ?_)
            refine WL.op (d := 39) (.bool false) (k := ?_)
            refine WL.op (d := 40) (.bool false) (k := ?_)
            refine WL.skip (d := 41) (k := ?_)
            refine WL.skip (d := 42) (k := ?_)
            refine WL.skip (d := 43) (k := ?_)
            refine WL.skip (d := 44) (k := ?_)
            refine WL.op (d := 45) (.bool false) (k := ?_)
            refine WL.op (d := 46) (.bool false) (k := ?_)
            refine WL.skip (d := 47) (k := ?_)
            refine WL.skip (d := 48) (k := ?_)
            refine WL.skip (d := 49) (k := ?_)
            refine WL.skip (d := 50) (k := ?_)
            refine WL.skip (d := 51) (k := ?_)
            refine WL.op (d := 52) (.bool false) (k := ?_)
            refine WL.op (d := 2) (.bool false) (k := ?_)
            refine WL.nil ?_
            refine WX.seqN ?_
            refine WC.ret ?_
            refine WX.ret (rs := [.tmp 2]) [.bool false] (.bool false) ⟨(by kernel_rfl), trivial⟩ (k := ?_)
            exact ⟨ret_bool (cok_rng (fun k => by simp only [PCmd.rngs] at k; omega)), K⟩

set_option maxRecDepth 100000 in
set_option maxHeartbeats 4000000 in
theorem u23Check_c {c : GCmd} {w : World} (hc : SlAt fateC 2 50 c.A c.p.fs w) (lc : c.p.fs.length ≤ 1000000000) : Calls Try.prog 10 #[c.val] w fun e w' => e = .returned (.bool (cokB c.p)) ∧ Adds w w' := by
  have K : Keeps (fun _ => False) w w := Keeps.refl _ w
  refine Calls.start Try.func10 rfl (by kernel_rfl) ?_
  refine WC.seq ?_
  refine WC.region ?_
  refine WL.new (d := 1) (T := 32) (Value.cells (GCmd.val c)) (k := fun b1 w2 g3 hb4 k5 => ?_)
  have z6 := Nat.le_trans K.size g3
  replace K := K.trans (k5.any _)
  refine WL.op (d := 2) (.bool false) (k := ?_)
  refine WL.nil ?_
  refine WX.seqN ?_
  refine WC.seq ?_
  refine WC.quiet (k := ?_)
  refine WQ.load (v := GCmd.val c) (fun w_ k_ => ldN (T := 32) (i := 0) (m := 15) (l := (Value.cells (GCmd.val c)).toList) (k_.heap hb4 id)) (k := ?_)
  refine WQ.load (v := GCmd.val c) (fun w_ k_ => ldN (T := 32) (i := 0) (m := 15) (l := (Value.cells (GCmd.val c)).toList) (k_.heap hb4 id)) (k := ?_)
  have hb7 := bare_sl hc
  have bl8 := bare_le c
  refine WQ.callG (d := 8) (f := 25) (args := #[GCmd.val c]) (v := GCmd.val (GCmd.bare c)) (fun w_ k_ => u23bare_c c w_) addsR (k := ?_)
  refine WQ.callG (d := 9) (f := 12) (args := #[GCmd.val c, GCmd.val (GCmd.bare c)]) (v := .bool (decide (c.p = (GCmd.bare c).p))) (fun w_ k_ => u23Same_c (x := c) (y := (GCmd.bare c)) ((hc.adds K).adds k_) ((hb7.adds K).adds k_) (by omega) (by omega)) addsR (k := ?_)
  refine WQ.op (d := 3) (.bool (decide (c.p = (GCmd.bare c).p))) (k := ?_)
  refine WQ.nilX (fun w9 k10 => ?_)
  replace hb4 := k10.heap hb4 id
  replace K := K.trans (k10.any _)
  refine WX.seqN ?_
  refine WC.seq ?_
  refine WC.seq ?_
  refine WC.region ?_
  refine WL.op (d := 10) (.bool (decide (c.p = (GCmd.bare c).p))) (k := ?_)
  refine WL.op (d := 11) (.bool (!(decide (c.p = (GCmd.bare c).p)))) (k := ?_)
  refine WL.op (d := 12) (.bool (!(decide (c.p = (GCmd.bare c).p)))) (k := ?_)
  refine bsplit (!(decide (c.p = (GCmd.bare c).p))) (fun h11 => ?_) (fun h11 => ?_)
  · have h12 : (decide (c.p = (GCmd.bare c).p)) = false := Bool.not_inj (y := false) h11
    have ph12 := of_decide_eq_false h12
    refine WL.rw (t := 12) (v := .bool true) (congrArg Value.bool h11) (k := ?_)
    refine WL.skip (d := 13) (k := ?_)
    refine WL.skip (d := 14) (k := ?_)
    refine WL.skip (d := 15) (k := ?_)
    refine WL.op (d := 16) (.bool true) (k := ?_)
    refine WL.op (d := 17) (.bool true) (k := ?_)
    refine WL.skip (d := 18) (k := ?_)
    refine WL.skip (d := 19) (k := ?_)
    refine WL.skip (d := 20) (k := ?_)
    refine WL.op (d := 21) (.bool true) (k := ?_)
    refine WL.op (d := 22) (.bool true) (k := ?_)
    refine WL.skip (d := 23) (k := ?_)
    refine WL.skip (d := 24) (k := ?_)
    refine WL.skip (d := 25) (k := ?_)
    refine WL.op (d := 26) (.bool true) (k := ?_)
    refine WL.op (d := 27) (.bool true) (k := ?_)
    refine WL.skip (d := 28) (k := ?_)
    refine WL.skip (d := 29) (k := ?_)
    refine WL.skip (d := 30) (k := ?_)
    refine WL.op (d := 31) (.bool true) (k := ?_)
    refine WL.op (d := 32) (.bool true) (k := ?_)
    refine WL.skip (d := 33) (k := ?_)
    refine WL.skip (d := 34) (k := ?_)
    refine WL.skip (d := 35) (k := ?_)
    refine WL.op (d := 36) (.bool true) (k := ?_)
    refine WL.op (d := 37) (.bool true) (k := ?_)
    refine WL.skip (d := 38) (k := ?_)
    refine WL.skip (d := 39) (k := ?_)
    refine WL.skip (d := 40) (k := ?_)
    refine WL.op (d := 41) (.bool true) (k := ?_)
    refine WL.op (d := 42) (.bool true) (k := ?_)
    refine WL.skip (d := 43) (k := ?_)
    refine WL.skip (d := 44) (k := ?_)
    refine WL.skip (d := 45) (k := ?_)
    refine WL.op (d := 46) (.bool true) (k := ?_)
    refine WL.op (d := 47) (.bool true) (k := ?_)
    refine WL.skip (d := 48) (k := ?_)
    refine WL.skip (d := 49) (k := ?_)
    refine WL.skip (d := 50) (k := ?_)
    refine WL.op (d := 51) (.bool true) (k := ?_)
    refine WL.op (d := 52) (.bool true) (k := ?_)
    refine WL.skip (d := 53) (k := ?_)
    refine WL.skip (d := 54) (k := ?_)
    refine WL.skip (d := 55) (k := ?_)
    refine WL.skip (d := 56) (k := ?_)
    refine WL.op (d := 57) (.bool true) (k := ?_)
    refine WL.nil ?_
    refine WX.seqN ?_
    refine WC.condT (k := ?_)
    refine WC.seq ?_
    refine WC.region ?_
    refine WL.op (d := 2) (.bool false) (k := ?_)
    refine WL.nil ?_
    refine WX.seqN ?_
    refine WC.ret ?_
    refine WX.seqR ?_
    refine WX.ret (rs := [.tmp 2]) [.bool false] (.bool false) ⟨(by kernel_rfl), trivial⟩ (k := ?_)
    exact ⟨ret_bool (cok_ne ph12), K⟩
  · have h13 : (decide (c.p = (GCmd.bare c).p)) = true := Bool.not_inj (y := true) h11
    have ph13 := of_decide_eq_true h13
    refine WL.rw (t := 12) (v := .bool false) (congrArg Value.bool h11) (k := ?_)
    refine WL.op (d := 13) (.pointer (some ⟨b1, 0, none⟩)) (k := ?_)
    refine WL.load (v := .int .i64 c.p.kind) (ld1 (T := 3) (i := 0) hb4) (k := ?_)
    refine WL.op (d := 15) (.bool (decide (c.p.kind < 1))) (k := ?_)
    refine WL.op (d := 16) (.bool (decide (c.p.kind < 1))) (k := ?_)
    refine WL.op (d := 17) (.bool (decide (c.p.kind < 1))) (k := ?_)
    refine bsplit (decide (c.p.kind < 1)) (fun h14 => ?_) (fun h14 => ?_)
    · have ph14 := of_decide_eq_true h14
      refine WL.rw (t := 17) (v := .bool true) (congrArg Value.bool h14) (k := ?_)
      refine WL.skip (d := 18) (k := ?_)
      refine WL.skip (d := 19) (k := ?_)
      refine WL.skip (d := 20) (k := ?_)
      refine WL.op (d := 21) (.bool true) (k := ?_)
      refine WL.op (d := 22) (.bool true) (k := ?_)
      refine WL.skip (d := 23) (k := ?_)
      refine WL.skip (d := 24) (k := ?_)
      refine WL.skip (d := 25) (k := ?_)
      refine WL.op (d := 26) (.bool true) (k := ?_)
      refine WL.op (d := 27) (.bool true) (k := ?_)
      refine WL.skip (d := 28) (k := ?_)
      refine WL.skip (d := 29) (k := ?_)
      refine WL.skip (d := 30) (k := ?_)
      refine WL.op (d := 31) (.bool true) (k := ?_)
      refine WL.op (d := 32) (.bool true) (k := ?_)
      refine WL.skip (d := 33) (k := ?_)
      refine WL.skip (d := 34) (k := ?_)
      refine WL.skip (d := 35) (k := ?_)
      refine WL.op (d := 36) (.bool true) (k := ?_)
      refine WL.op (d := 37) (.bool true) (k := ?_)
      refine WL.skip (d := 38) (k := ?_)
      refine WL.skip (d := 39) (k := ?_)
      refine WL.skip (d := 40) (k := ?_)
      refine WL.op (d := 41) (.bool true) (k := ?_)
      refine WL.op (d := 42) (.bool true) (k := ?_)
      refine WL.skip (d := 43) (k := ?_)
      refine WL.skip (d := 44) (k := ?_)
      refine WL.skip (d := 45) (k := ?_)
      refine WL.op (d := 46) (.bool true) (k := ?_)
      refine WL.op (d := 47) (.bool true) (k := ?_)
      refine WL.skip (d := 48) (k := ?_)
      refine WL.skip (d := 49) (k := ?_)
      refine WL.skip (d := 50) (k := ?_)
      refine WL.op (d := 51) (.bool true) (k := ?_)
      refine WL.op (d := 52) (.bool true) (k := ?_)
      refine WL.skip (d := 53) (k := ?_)
      refine WL.skip (d := 54) (k := ?_)
      refine WL.skip (d := 55) (k := ?_)
      refine WL.skip (d := 56) (k := ?_)
      refine WL.op (d := 57) (.bool true) (k := ?_)
      refine WL.nil ?_
      refine WX.seqN ?_
      refine WC.condT (k := ?_)
      refine WC.seq ?_
      refine WC.region ?_
      refine WL.op (d := 2) (.bool false) (k := ?_)
      refine WL.nil ?_
      refine WX.seqN ?_
      refine WC.ret ?_
      refine WX.seqR ?_
      refine WX.ret (rs := [.tmp 2]) [.bool false] (.bool false) ⟨(by kernel_rfl), trivial⟩ (k := ?_)
      exact ⟨ret_bool (cok_rng (fun k => by simp only [PCmd.rngs] at k; omega)), K⟩
    · have ph14 := of_decide_eq_false h14
      refine WL.rw (t := 17) (v := .bool false) (congrArg Value.bool h14) (k := ?_)
      refine WL.op (d := 18) (.pointer (some ⟨b1, 0, none⟩)) (k := ?_)
      refine WL.load (v := .int .i64 c.p.kind) (ld1 (T := 3) (i := 0) hb4) (k := ?_)
      refine WL.op (d := 20) (.bool (decide (c.p.kind > 9))) (k := ?_)
      refine WL.op (d := 21) (.bool (decide (c.p.kind > 9))) (k := ?_)
      refine WL.op (d := 22) (.bool (decide (c.p.kind > 9))) (k := ?_)
      refine bsplit (decide (c.p.kind > 9)) (fun h15 => ?_) (fun h15 => ?_)
      · have ph15 := of_decide_eq_true h15
        refine WL.rw (t := 22) (v := .bool true) (congrArg Value.bool h15) (k := ?_)
        refine WL.skip (d := 23) (k := ?_)
        refine WL.skip (d := 24) (k := ?_)
        refine WL.skip (d := 25) (k := ?_)
        refine WL.op (d := 26) (.bool true) (k := ?_)
        refine WL.op (d := 27) (.bool true) (k := ?_)
        refine WL.skip (d := 28) (k := ?_)
        refine WL.skip (d := 29) (k := ?_)
        refine WL.skip (d := 30) (k := ?_)
        refine WL.op (d := 31) (.bool true) (k := ?_)
        refine WL.op (d := 32) (.bool true) (k := ?_)
        refine WL.skip (d := 33) (k := ?_)
        refine WL.skip (d := 34) (k := ?_)
        refine WL.skip (d := 35) (k := ?_)
        refine WL.op (d := 36) (.bool true) (k := ?_)
        refine WL.op (d := 37) (.bool true) (k := ?_)
        refine WL.skip (d := 38) (k := ?_)
        refine WL.skip (d := 39) (k := ?_)
        refine WL.skip (d := 40) (k := ?_)
        refine WL.op (d := 41) (.bool true) (k := ?_)
        refine WL.op (d := 42) (.bool true) (k := ?_)
        refine WL.skip (d := 43) (k := ?_)
        refine WL.skip (d := 44) (k := ?_)
        refine WL.skip (d := 45) (k := ?_)
        refine WL.op (d := 46) (.bool true) (k := ?_)
        refine WL.op (d := 47) (.bool true) (k := ?_)
        refine WL.skip (d := 48) (k := ?_)
        refine WL.skip (d := 49) (k := ?_)
        refine WL.skip (d := 50) (k := ?_)
        refine WL.op (d := 51) (.bool true) (k := ?_)
        refine WL.op (d := 52) (.bool true) (k := ?_)
        refine WL.skip (d := 53) (k := ?_)
        refine WL.skip (d := 54) (k := ?_)
        refine WL.skip (d := 55) (k := ?_)
        refine WL.skip (d := 56) (k := ?_)
        refine WL.op (d := 57) (.bool true) (k := ?_)
        refine WL.nil ?_
        refine WX.seqN ?_
        refine WC.condT (k := ?_)
        refine WC.seq ?_
        refine WC.region ?_
        refine WL.op (d := 2) (.bool false) (k := ?_)
        refine WL.nil ?_
        refine WX.seqN ?_
        refine WC.ret ?_
        refine WX.seqR ?_
        refine WX.ret (rs := [.tmp 2]) [.bool false] (.bool false) ⟨(by kernel_rfl), trivial⟩ (k := ?_)
        exact ⟨ret_bool (cok_rng (fun k => by simp only [PCmd.rngs] at k; omega)), K⟩
      · have ph15 := of_decide_eq_false h15
        refine WL.rw (t := 22) (v := .bool false) (congrArg Value.bool h15) (k := ?_)
        refine WL.op (d := 23) (.pointer (some ⟨b1, 11, none⟩)) (k := ?_)
        refine WL.load (v := .int .i64 c.p.id) (ld1 (T := 3) (i := 11) hb4) (k := ?_)
        refine WL.op (d := 25) (.bool (decide (c.p.id < 0))) (k := ?_)
        refine WL.op (d := 26) (.bool (decide (c.p.id < 0))) (k := ?_)
        refine WL.op (d := 27) (.bool (decide (c.p.id < 0))) (k := ?_)
        refine bsplit (decide (c.p.id < 0)) (fun h16 => ?_) (fun h16 => ?_)
        · have ph16 := of_decide_eq_true h16
          refine WL.rw (t := 27) (v := .bool true) (congrArg Value.bool h16) (k := ?_)
          refine WL.skip (d := 28) (k := ?_)
          refine WL.skip (d := 29) (k := ?_)
          refine WL.skip (d := 30) (k := ?_)
          refine WL.op (d := 31) (.bool true) (k := ?_)
          refine WL.op (d := 32) (.bool true) (k := ?_)
          refine WL.skip (d := 33) (k := ?_)
          refine WL.skip (d := 34) (k := ?_)
          refine WL.skip (d := 35) (k := ?_)
          refine WL.op (d := 36) (.bool true) (k := ?_)
          refine WL.op (d := 37) (.bool true) (k := ?_)
          refine WL.skip (d := 38) (k := ?_)
          refine WL.skip (d := 39) (k := ?_)
          refine WL.skip (d := 40) (k := ?_)
          refine WL.op (d := 41) (.bool true) (k := ?_)
          refine WL.op (d := 42) (.bool true) (k := ?_)
          refine WL.skip (d := 43) (k := ?_)
          refine WL.skip (d := 44) (k := ?_)
          refine WL.skip (d := 45) (k := ?_)
          refine WL.op (d := 46) (.bool true) (k := ?_)
          refine WL.op (d := 47) (.bool true) (k := ?_)
          refine WL.skip (d := 48) (k := ?_)
          refine WL.skip (d := 49) (k := ?_)
          refine WL.skip (d := 50) (k := ?_)
          refine WL.op (d := 51) (.bool true) (k := ?_)
          refine WL.op (d := 52) (.bool true) (k := ?_)
          refine WL.skip (d := 53) (k := ?_)
          refine WL.skip (d := 54) (k := ?_)
          refine WL.skip (d := 55) (k := ?_)
          refine WL.skip (d := 56) (k := ?_)
          refine WL.op (d := 57) (.bool true) (k := ?_)
          refine WL.nil ?_
          refine WX.seqN ?_
          refine WC.condT (k := ?_)
          refine WC.seq ?_
          refine WC.region ?_
          refine WL.op (d := 2) (.bool false) (k := ?_)
          refine WL.nil ?_
          refine WX.seqN ?_
          refine WC.ret ?_
          refine WX.seqR ?_
          refine WX.ret (rs := [.tmp 2]) [.bool false] (.bool false) ⟨(by kernel_rfl), trivial⟩ (k := ?_)
          exact ⟨ret_bool (cok_rng (fun k => by simp only [PCmd.rngs] at k; omega)), K⟩
        · have ph16 := of_decide_eq_false h16
          refine WL.rw (t := 27) (v := .bool false) (congrArg Value.bool h16) (k := ?_)
          refine WL.op (d := 28) (.pointer (some ⟨b1, 11, none⟩)) (k := ?_)
          refine WL.load (v := .int .i64 c.p.id) (ld1 (T := 3) (i := 11) hb4) (k := ?_)
          refine WL.op (d := 30) (.bool (decide (c.p.id > 1023))) (k := ?_)
          refine WL.op (d := 31) (.bool (decide (c.p.id > 1023))) (k := ?_)
          refine WL.op (d := 32) (.bool (decide (c.p.id > 1023))) (k := ?_)
          refine bsplit (decide (c.p.id > 1023)) (fun h17 => ?_) (fun h17 => ?_)
          · have ph17 := of_decide_eq_true h17
            refine WL.rw (t := 32) (v := .bool true) (congrArg Value.bool h17) (k := ?_)
            refine WL.skip (d := 33) (k := ?_)
            refine WL.skip (d := 34) (k := ?_)
            refine WL.skip (d := 35) (k := ?_)
            refine WL.op (d := 36) (.bool true) (k := ?_)
            refine WL.op (d := 37) (.bool true) (k := ?_)
            refine WL.skip (d := 38) (k := ?_)
            refine WL.skip (d := 39) (k := ?_)
            refine WL.skip (d := 40) (k := ?_)
            refine WL.op (d := 41) (.bool true) (k := ?_)
            refine WL.op (d := 42) (.bool true) (k := ?_)
            refine WL.skip (d := 43) (k := ?_)
            refine WL.skip (d := 44) (k := ?_)
            refine WL.skip (d := 45) (k := ?_)
            refine WL.op (d := 46) (.bool true) (k := ?_)
            refine WL.op (d := 47) (.bool true) (k := ?_)
            refine WL.skip (d := 48) (k := ?_)
            refine WL.skip (d := 49) (k := ?_)
            refine WL.skip (d := 50) (k := ?_)
            refine WL.op (d := 51) (.bool true) (k := ?_)
            refine WL.op (d := 52) (.bool true) (k := ?_)
            refine WL.skip (d := 53) (k := ?_)
            refine WL.skip (d := 54) (k := ?_)
            refine WL.skip (d := 55) (k := ?_)
            refine WL.skip (d := 56) (k := ?_)
            refine WL.op (d := 57) (.bool true) (k := ?_)
            refine WL.nil ?_
            refine WX.seqN ?_
            refine WC.condT (k := ?_)
            refine WC.seq ?_
            refine WC.region ?_
            refine WL.op (d := 2) (.bool false) (k := ?_)
            refine WL.nil ?_
            refine WX.seqN ?_
            refine WC.ret ?_
            refine WX.seqR ?_
            refine WX.ret (rs := [.tmp 2]) [.bool false] (.bool false) ⟨(by kernel_rfl), trivial⟩ (k := ?_)
            exact ⟨ret_bool (cok_rng (fun k => by simp only [PCmd.rngs] at k; omega)), K⟩
          · have ph17 := of_decide_eq_false h17
            refine WL.rw (t := 32) (v := .bool false) (congrArg Value.bool h17) (k := ?_)
            refine WL.op (d := 33) (.pointer (some ⟨b1, 12, none⟩)) (k := ?_)
            refine WL.load (v := .int .i64 c.p.work) (ld1 (T := 2) (i := 12) hb4) (k := ?_)
            refine WL.op (d := 35) (.bool (decide (c.p.work < 0))) (k := ?_)
            refine WL.op (d := 36) (.bool (decide (c.p.work < 0))) (k := ?_)
            refine WL.op (d := 37) (.bool (decide (c.p.work < 0))) (k := ?_)
            refine bsplit (decide (c.p.work < 0)) (fun h18 => ?_) (fun h18 => ?_)
            · have ph18 := of_decide_eq_true h18
              refine WL.rw (t := 37) (v := .bool true) (congrArg Value.bool h18) (k := ?_)
              refine WL.skip (d := 38) (k := ?_)
              refine WL.skip (d := 39) (k := ?_)
              refine WL.skip (d := 40) (k := ?_)
              refine WL.op (d := 41) (.bool true) (k := ?_)
              refine WL.op (d := 42) (.bool true) (k := ?_)
              refine WL.skip (d := 43) (k := ?_)
              refine WL.skip (d := 44) (k := ?_)
              refine WL.skip (d := 45) (k := ?_)
              refine WL.op (d := 46) (.bool true) (k := ?_)
              refine WL.op (d := 47) (.bool true) (k := ?_)
              refine WL.skip (d := 48) (k := ?_)
              refine WL.skip (d := 49) (k := ?_)
              refine WL.skip (d := 50) (k := ?_)
              refine WL.op (d := 51) (.bool true) (k := ?_)
              refine WL.op (d := 52) (.bool true) (k := ?_)
              refine WL.skip (d := 53) (k := ?_)
              refine WL.skip (d := 54) (k := ?_)
              refine WL.skip (d := 55) (k := ?_)
              refine WL.skip (d := 56) (k := ?_)
              refine WL.op (d := 57) (.bool true) (k := ?_)
              refine WL.nil ?_
              refine WX.seqN ?_
              refine WC.condT (k := ?_)
              refine WC.seq ?_
              refine WC.region ?_
              refine WL.op (d := 2) (.bool false) (k := ?_)
              refine WL.nil ?_
              refine WX.seqN ?_
              refine WC.ret ?_
              refine WX.seqR ?_
              refine WX.ret (rs := [.tmp 2]) [.bool false] (.bool false) ⟨(by kernel_rfl), trivial⟩ (k := ?_)
              exact ⟨ret_bool (cok_rng (fun k => by simp only [PCmd.rngs] at k; omega)), K⟩
            · have ph18 := of_decide_eq_false h18
              refine WL.rw (t := 37) (v := .bool false) (congrArg Value.bool h18) (k := ?_)
              refine WL.op (d := 38) (.pointer (some ⟨b1, 12, none⟩)) (k := ?_)
              refine WL.load (v := .int .i64 c.p.work) (ld1 (T := 2) (i := 12) hb4) (k := ?_)
              refine WL.op (d := 40) (.bool (decide (c.p.work > 2147483648))) (k := ?_)
              refine WL.op (d := 41) (.bool (decide (c.p.work > 2147483648))) (k := ?_)
              refine WL.op (d := 42) (.bool (decide (c.p.work > 2147483648))) (k := ?_)
              refine bsplit (decide (c.p.work > 2147483648)) (fun h19 => ?_) (fun h19 => ?_)
              · have ph19 := of_decide_eq_true h19
                refine WL.rw (t := 42) (v := .bool true) (congrArg Value.bool h19) (k := ?_)
                refine WL.skip (d := 43) (k := ?_)
                refine WL.skip (d := 44) (k := ?_)
                refine WL.skip (d := 45) (k := ?_)
                refine WL.op (d := 46) (.bool true) (k := ?_)
                refine WL.op (d := 47) (.bool true) (k := ?_)
                refine WL.skip (d := 48) (k := ?_)
                refine WL.skip (d := 49) (k := ?_)
                refine WL.skip (d := 50) (k := ?_)
                refine WL.op (d := 51) (.bool true) (k := ?_)
                refine WL.op (d := 52) (.bool true) (k := ?_)
                refine WL.skip (d := 53) (k := ?_)
                refine WL.skip (d := 54) (k := ?_)
                refine WL.skip (d := 55) (k := ?_)
                refine WL.skip (d := 56) (k := ?_)
                refine WL.op (d := 57) (.bool true) (k := ?_)
                refine WL.nil ?_
                refine WX.seqN ?_
                refine WC.condT (k := ?_)
                refine WC.seq ?_
                refine WC.region ?_
                refine WL.op (d := 2) (.bool false) (k := ?_)
                refine WL.nil ?_
                refine WX.seqN ?_
                refine WC.ret ?_
                refine WX.seqR ?_
                refine WX.ret (rs := [.tmp 2]) [.bool false] (.bool false) ⟨(by kernel_rfl), trivial⟩ (k := ?_)
                exact ⟨ret_bool (cok_rng (fun k => by simp only [PCmd.rngs] at k; omega)), K⟩
              · have ph19 := of_decide_eq_false h19
                refine WL.rw (t := 42) (v := .bool false) (congrArg Value.bool h19) (k := ?_)
                refine WL.op (d := 43) (.pointer (some ⟨b1, 13, none⟩)) (k := ?_)
                refine WL.load (v := .int .i64 c.p.n) (ld1 (T := 3) (i := 13) hb4) (k := ?_)
                refine WL.op (d := 45) (.bool (decide (c.p.n < 0))) (k := ?_)
                refine WL.op (d := 46) (.bool (decide (c.p.n < 0))) (k := ?_)
                refine WL.op (d := 47) (.bool (decide (c.p.n < 0))) (k := ?_)
                refine bsplit (decide (c.p.n < 0)) (fun h20 => ?_) (fun h20 => ?_)
                · have ph20 := of_decide_eq_true h20
                  refine WL.rw (t := 47) (v := .bool true) (congrArg Value.bool h20) (k := ?_)
                  refine WL.skip (d := 48) (k := ?_)
                  refine WL.skip (d := 49) (k := ?_)
                  refine WL.skip (d := 50) (k := ?_)
                  refine WL.op (d := 51) (.bool true) (k := ?_)
                  refine WL.op (d := 52) (.bool true) (k := ?_)
                  refine WL.skip (d := 53) (k := ?_)
                  refine WL.skip (d := 54) (k := ?_)
                  refine WL.skip (d := 55) (k := ?_)
                  refine WL.skip (d := 56) (k := ?_)
                  refine WL.op (d := 57) (.bool true) (k := ?_)
                  refine WL.nil ?_
                  refine WX.seqN ?_
                  refine WC.condT (k := ?_)
                  refine WC.seq ?_
                  refine WC.region ?_
                  refine WL.op (d := 2) (.bool false) (k := ?_)
                  refine WL.nil ?_
                  refine WX.seqN ?_
                  refine WC.ret ?_
                  refine WX.seqR ?_
                  refine WX.ret (rs := [.tmp 2]) [.bool false] (.bool false) ⟨(by kernel_rfl), trivial⟩ (k := ?_)
                  exact ⟨ret_bool (cok_rng (fun k => by simp only [PCmd.rngs] at k; omega)), K⟩
                · have ph20 := of_decide_eq_false h20
                  refine WL.rw (t := 47) (v := .bool false) (congrArg Value.bool h20) (k := ?_)
                  refine WL.op (d := 48) (.pointer (some ⟨b1, 13, none⟩)) (k := ?_)
                  refine WL.load (v := .int .i64 c.p.n) (ld1 (T := 3) (i := 13) hb4) (k := ?_)
                  refine WL.op (d := 50) (.bool (decide (c.p.n > 1048576))) (k := ?_)
                  refine WL.op (d := 51) (.bool (decide (c.p.n > 1048576))) (k := ?_)
                  refine WL.op (d := 52) (.bool (decide (c.p.n > 1048576))) (k := ?_)
                  refine bsplit (decide (c.p.n > 1048576)) (fun h21 => ?_) (fun h21 => ?_)
                  · have ph21 := of_decide_eq_true h21
                    refine WL.rw (t := 52) (v := .bool true) (congrArg Value.bool h21) (k := ?_)
                    refine WL.skip (d := 53) (k := ?_)
                    refine WL.skip (d := 54) (k := ?_)
                    refine WL.skip (d := 55) (k := ?_)
                    refine WL.skip (d := 56) (k := ?_)
                    refine WL.op (d := 57) (.bool true) (k := ?_)
                    refine WL.nil ?_
                    refine WX.seqN ?_
                    refine WC.condT (k := ?_)
                    refine WC.seq ?_
                    refine WC.region ?_
                    refine WL.op (d := 2) (.bool false) (k := ?_)
                    refine WL.nil ?_
                    refine WX.seqN ?_
                    refine WC.ret ?_
                    refine WX.seqR ?_
                    refine WX.ret (rs := [.tmp 2]) [.bool false] (.bool false) ⟨(by kernel_rfl), trivial⟩ (k := ?_)
                    exact ⟨ret_bool (cok_rng (fun k => by simp only [PCmd.rngs] at k; omega)), K⟩
                  · have ph21 := of_decide_eq_false h21
                    refine WL.rw (t := 52) (v := .bool false) (congrArg Value.bool h21) (k := ?_)
                    refine WL.op (d := 53) (.pointer (some ⟨b1, 14, none⟩)) (k := ?_)
                    refine WL.load (v := .slice c.A c.p.fs.length c.cap) (ld1 (T := 30) (i := 14) hb4) (k := ?_)
                    refine WL.op (d := 55) (.int .i64 (c.p.fs.length : Int)) (k := ?_)
                    refine WL.op (d := 56) (.bool (decide ((c.p.fs.length : Int) > 64))) (k := ?_)
                    refine WL.op (d := 57) (.bool (decide ((c.p.fs.length : Int) > 64))) (k := ?_)
                    refine WL.nil ?_
                    refine WX.seqN ?_
                    refine WC.cond (b := decide ((c.p.fs.length : Int) > 64)) (ht := fun h22 => ?_) (hf := fun h22 => ?_)
                    · have ph22 := of_decide_eq_true h22
                      refine WC.seq ?_
                      refine WC.region ?_
                      refine WL.op (d := 2) (.bool false) (k := ?_)
                      refine WL.nil ?_
                      refine WX.seqN ?_
                      refine WC.ret ?_
                      refine WX.seqR ?_
                      refine WX.ret (rs := [.tmp 2]) [.bool false] (.bool false) ⟨(by kernel_rfl), trivial⟩ (k := ?_)
                      exact ⟨ret_bool (cok_rng (fun k => by simp only [PCmd.rngs] at k; omega)), K⟩
                    · have ph22 := of_decide_eq_false h22
                      refine WC.skip ?_
                      refine WX.seqN ?_
                      refine WC.seq ?_
                      refine WC.seq ?_
                      refine WC.region ?_
                      refine WL.op (d := 4) (.int .i64 0) (k := ?_)
                      refine WL.nil ?_
                      refine WX.seqN ?_
                      refine WC.block ?_
                      refine WC.loop (ι := Int) (fun (i : Int) => [(0, GCmd.val c), (1, .pointer (some ⟨b1, 0, none⟩)), (6, GCmd.val c), (7, GCmd.val c), (8, GCmd.val (GCmd.bare c)), (9, .bool (decide (c.p = (GCmd.bare c).p))), (3, .bool (decide (c.p = (GCmd.bare c).p))), (10, .bool (decide (c.p = (GCmd.bare c).p))), (11, .bool (!(decide (c.p = (GCmd.bare c).p)))), (12, .bool false), (13, .pointer (some ⟨b1, 0, none⟩)), (14, .int .i64 c.p.kind), (15, .bool (decide (c.p.kind < 1))), (16, .bool (decide (c.p.kind < 1))), (17, .bool false), (18, .pointer (some ⟨b1, 0, none⟩)), (19, .int .i64 c.p.kind), (20, .bool (decide (c.p.kind > 9))), (21, .bool (decide (c.p.kind > 9))), (22, .bool false), (23, .pointer (some ⟨b1, 11, none⟩)), (24, .int .i64 c.p.id), (25, .bool (decide (c.p.id < 0))), (26, .bool (decide (c.p.id < 0))), (27, .bool false), (28, .pointer (some ⟨b1, 11, none⟩)), (29, .int .i64 c.p.id), (30, .bool (decide (c.p.id > 1023))), (31, .bool (decide (c.p.id > 1023))), (32, .bool false), (33, .pointer (some ⟨b1, 12, none⟩)), (34, .int .i64 c.p.work), (35, .bool (decide (c.p.work < 0))), (36, .bool (decide (c.p.work < 0))), (37, .bool false), (38, .pointer (some ⟨b1, 12, none⟩)), (39, .int .i64 c.p.work), (40, .bool (decide (c.p.work > 2147483648))), (41, .bool (decide (c.p.work > 2147483648))), (42, .bool false), (43, .pointer (some ⟨b1, 13, none⟩)), (44, .int .i64 c.p.n), (45, .bool (decide (c.p.n < 0))), (46, .bool (decide (c.p.n < 0))), (47, .bool false), (48, .pointer (some ⟨b1, 13, none⟩)), (49, .int .i64 c.p.n), (50, .bool (decide (c.p.n > 1048576))), (51, .bool (decide (c.p.n > 1048576))), (52, .bool false), (53, .pointer (some ⟨b1, 14, none⟩)), (54, .slice c.A c.p.fs.length c.cap), (55, .int .i64 (c.p.fs.length : Int)), (56, .bool (decide ((c.p.fs.length : Int) > 64))), (57, .bool (decide ((c.p.fs.length : Int) > 64))), (4, .int .i64 i)]) (fun (i : Int) (w_ : World) => (Keeps (fun _ => False) w w_) ∧ (w_.heap[b1]? = some (.cells (Value.cells (GCmd.val c)) 32 (0, 0))) ∧ (0 ≤ i) ∧ (i ≤ c.p.fs.length) ∧ (upF c.p.fs i)) (fun (i : Int) => (c.p.fs.length - i).toNat) 0 ⟨(by kernel_rfl), (by kernel_rfl), (by kernel_rfl), (by kernel_rfl), (by kernel_rfl), (by kernel_rfl), (by kernel_rfl), (by kernel_rfl), (by kernel_rfl), (by kernel_rfl), (by kernel_rfl), (by kernel_rfl), (by kernel_rfl), (by kernel_rfl), (by kernel_rfl), (by kernel_rfl), (by kernel_rfl), (by kernel_rfl), (by kernel_rfl), (by kernel_rfl), (by kernel_rfl), (by kernel_rfl), (by kernel_rfl), (by kernel_rfl), (by kernel_rfl), (by kernel_rfl), (by kernel_rfl), (by kernel_rfl), (by kernel_rfl), (by kernel_rfl), (by kernel_rfl), (by kernel_rfl), (by kernel_rfl), (by kernel_rfl), (by kernel_rfl), (by kernel_rfl), (by kernel_rfl), (by kernel_rfl), (by kernel_rfl), (by kernel_rfl), (by kernel_rfl), (by kernel_rfl), (by kernel_rfl), (by kernel_rfl), (by kernel_rfl), (by kernel_rfl), (by kernel_rfl), (by kernel_rfl), (by kernel_rfl), (by kernel_rfl), (by kernel_rfl), (by kernel_rfl), (by kernel_rfl), (by kernel_rfl), (by kernel_rfl), (by kernel_rfl), trivial⟩ ⟨K, hb4, Int.le_refl 0, (by omega), upF_zero _⟩ ?_
                      rintro i w23 ⟨K, hb24, i0, i1, iu⟩
                      refine WC.seq ?_
                      refine WC.seq ?_
                      refine WC.region ?_
                      refine WL.op (d := 58) (.int .i64 i) (k := ?_)
                      refine WL.op (d := 59) (.pointer (some ⟨b1, 14, none⟩)) (k := ?_)
                      refine WL.load (v := .slice c.A c.p.fs.length c.cap) (ld1 (T := 30) (i := 14) hb24) (k := ?_)
                      refine WL.op (d := 61) (.int .i64 (c.p.fs.length : Int)) (k := ?_)
                      refine WL.op (d := 62) (.bool (decide (i < (c.p.fs.length : Int)))) (k := ?_)
                      refine WL.nil ?_
                      refine WX.seqN ?_
                      refine WC.cond (b := decide (i < (c.p.fs.length : Int))) (ht := fun h25 => ?_) (hf := fun h25 => ?_)
                      · have ph25 := of_decide_eq_true h25
                        refine WC.skip ?_
                        refine WX.seqN ?_
                        refine WC.seq ?_
                        refine WC.block ?_
                        refine WC.seq ?_
                        refine WC.region ?_
                        refine WL.op (d := 65) (.pointer (some ⟨b1, 14, none⟩)) (k := ?_)
                        refine WL.load (v := .slice c.A c.p.fs.length c.cap) (ld1 (T := 30) (i := 14) hb24) (k := ?_)
                        refine WL.op (d := 67) (.int .i64 i) (k := ?_)
                        obtain ⟨b26, o27, r28, hr29, hA30, he31⟩ := SlAt.at hc (i := i) (by omega) (by omega)
                        refine WL.rw (t := 66) (v := .slice (some ⟨b26, o27, none⟩) c.p.fs.length c.cap) (congrArg (fun a => Value.slice a c.p.fs.length c.cap) hA30) (k := ?_)
                        refine WL.idx (T := 30) (E := 50) (m := 2) (b := b26) (o := o27) (len := c.p.fs.length) (cap := c.cap) (i := i) (kk := .i64) (d := 68) (by omega) (by omega) (k := ?_)
                        refine WL.rw (t := 66) (v := .slice c.A c.p.fs.length c.cap) (congrArg (fun a => Value.slice a c.p.fs.length c.cap) (Eq.symm hA30)) (k := ?_)
                        refine WL.load (v := GFate.val r28) ((he31.adds K).ldW (T := 50)) (k := ?_)
                        refine WL.new (d := 5) (T := 50) #[.int .i64 0, .int .i64 0] (k := fun b32 w33 g34 hb35 k36 => ?_)
                        have z37 := Nat.le_trans K.size g34
                        have n38 : b1 ≠ b32 := Nat.ne_of_lt (Nat.lt_of_lt_of_le (lt_of_heap hb24) g34)
                        replace hb24 := k36.heap hb24 id
                        replace K := K.trans (k36.any _)
                        refine WL.store (v := GFate.val r28) (i := 0) (cs' := (Value.cells (GFate.val r28))) hb35 (k := fun w39 hb40 k41 => ?_)
                        replace hb24 := k41.heap hb24 n38
                        replace K := K.trans' k41 (fun i hi e => absurd (e ▸ hi) (Nat.not_lt.2 z37))
                        clear hb35
                        refine WL.nil ?_
                        refine WX.seqN ?_
                        refine WC.seq ?_
                        refine WC.region ?_
                        refine WL.op (d := 70) (.pointer (some ⟨b32, 0, none⟩)) (k := ?_)
                        refine WL.load (v := .int .i64 r28.kind) (ld1 (T := 3) (i := 0) hb40) (k := ?_)
                        refine WL.op (d := 72) (.bool (decide (r28.kind < 0))) (k := ?_)
                        refine WL.op (d := 73) (.bool (decide (r28.kind < 0))) (k := ?_)
                        refine bsplit (decide (r28.kind < 0)) (fun h42 => ?_) (fun h42 => ?_)
                        · have ph42 := of_decide_eq_true h42
                          refine WL.rw (t := 73) (v := .bool true) (congrArg Value.bool h42) (k := ?_)
                          refine WL.skip (d := 74) (k := ?_)
                          refine WL.skip (d := 75) (k := ?_)
                          refine WL.skip (d := 76) (k := ?_)
                          refine WL.op (d := 77) (.bool true) (k := ?_)
                          refine WL.op (d := 78) (.bool true) (k := ?_)
                          refine WL.skip (d := 79) (k := ?_)
                          refine WL.skip (d := 80) (k := ?_)
                          refine WL.skip (d := 81) (k := ?_)
                          refine WL.op (d := 82) (.bool true) (k := ?_)
                          refine WL.op (d := 83) (.bool true) (k := ?_)
                          refine WL.skip (d := 84) (k := ?_)
                          refine WL.skip (d := 85) (k := ?_)
                          refine WL.skip (d := 86) (k := ?_)
                          refine WL.op (d := 87) (.bool true) (k := ?_)
                          refine WL.nil ?_
                          refine WX.seqN ?_
                          refine WC.condT (k := ?_)
                          refine WC.seq ?_
                          refine WC.region ?_
                          refine WL.op (d := 2) (.bool false) (k := ?_)
                          refine WL.nil ?_
                          refine WX.seqN ?_
                          refine WC.ret ?_
                          refine WX.blockR ?_
                          refine WX.seqR ?_
                          refine WX.seqR ?_
                          refine WX.blockR ?_
                          refine WX.seqR ?_
                          refine WX.ret (rs := [.tmp 2]) [.bool false] (.bool false) ⟨(by kernel_rfl), trivial⟩ (k := ?_)
                          exact ⟨ret_bool (cok_fs1 hr29 (fun k => by simp only [GFate.ok] at k; omega)), K⟩
                        · have ph42 := of_decide_eq_false h42
                          refine WL.rw (t := 73) (v := .bool false) (congrArg Value.bool h42) (k := ?_)
                          refine WL.op (d := 74) (.pointer (some ⟨b32, 0, none⟩)) (k := ?_)
                          refine WL.load (v := .int .i64 r28.kind) (ld1 (T := 3) (i := 0) hb40) (k := ?_)
                          refine WL.op (d := 76) (.bool (decide (r28.kind > 2))) (k := ?_)
                          refine WL.op (d := 77) (.bool (decide (r28.kind > 2))) (k := ?_)
                          refine WL.op (d := 78) (.bool (decide (r28.kind > 2))) (k := ?_)
                          refine bsplit (decide (r28.kind > 2)) (fun h43 => ?_) (fun h43 => ?_)
                          · have ph43 := of_decide_eq_true h43
                            refine WL.rw (t := 78) (v := .bool true) (congrArg Value.bool h43) (k := ?_)
                            refine WL.skip (d := 79) (k := ?_)
                            refine WL.skip (d := 80) (k := ?_)
                            refine WL.skip (d := 81) (k := ?_)
                            refine WL.op (d := 82) (.bool true) (k := ?_)
                            refine WL.op (d := 83) (.bool true) (k := ?_)
                            refine WL.skip (d := 84) (k := ?_)
                            refine WL.skip (d := 85) (k := ?_)
                            refine WL.skip (d := 86) (k := ?_)
                            refine WL.op (d := 87) (.bool true) (k := ?_)
                            refine WL.nil ?_
                            refine WX.seqN ?_
                            refine WC.condT (k := ?_)
                            refine WC.seq ?_
                            refine WC.region ?_
                            refine WL.op (d := 2) (.bool false) (k := ?_)
                            refine WL.nil ?_
                            refine WX.seqN ?_
                            refine WC.ret ?_
                            refine WX.blockR ?_
                            refine WX.seqR ?_
                            refine WX.seqR ?_
                            refine WX.blockR ?_
                            refine WX.seqR ?_
                            refine WX.ret (rs := [.tmp 2]) [.bool false] (.bool false) ⟨(by kernel_rfl), trivial⟩ (k := ?_)
                            exact ⟨ret_bool (cok_fs1 hr29 (fun k => by simp only [GFate.ok] at k; omega)), K⟩
                          · have ph43 := of_decide_eq_false h43
                            refine WL.rw (t := 78) (v := .bool false) (congrArg Value.bool h43) (k := ?_)
                            refine WL.op (d := 79) (.pointer (some ⟨b32, 1, none⟩)) (k := ?_)
                            refine WL.load (v := .int .i64 r28.at_) (ld1 (T := 3) (i := 1) hb40) (k := ?_)
                            refine WL.op (d := 81) (.bool (decide (r28.at_ < 0))) (k := ?_)
                            refine WL.op (d := 82) (.bool (decide (r28.at_ < 0))) (k := ?_)
                            refine WL.op (d := 83) (.bool (decide (r28.at_ < 0))) (k := ?_)
                            refine bsplit (decide (r28.at_ < 0)) (fun h44 => ?_) (fun h44 => ?_)
                            · have ph44 := of_decide_eq_true h44
                              refine WL.rw (t := 83) (v := .bool true) (congrArg Value.bool h44) (k := ?_)
                              refine WL.skip (d := 84) (k := ?_)
                              refine WL.skip (d := 85) (k := ?_)
                              refine WL.skip (d := 86) (k := ?_)
                              refine WL.op (d := 87) (.bool true) (k := ?_)
                              refine WL.nil ?_
                              refine WX.seqN ?_
                              refine WC.condT (k := ?_)
                              refine WC.seq ?_
                              refine WC.region ?_
                              refine WL.op (d := 2) (.bool false) (k := ?_)
                              refine WL.nil ?_
                              refine WX.seqN ?_
                              refine WC.ret ?_
                              refine WX.blockR ?_
                              refine WX.seqR ?_
                              refine WX.seqR ?_
                              refine WX.blockR ?_
                              refine WX.seqR ?_
                              refine WX.ret (rs := [.tmp 2]) [.bool false] (.bool false) ⟨(by kernel_rfl), trivial⟩ (k := ?_)
                              exact ⟨ret_bool (cok_fs1 hr29 (fun k => by simp only [GFate.ok] at k; omega)), K⟩
                            · have ph44 := of_decide_eq_false h44
                              refine WL.rw (t := 83) (v := .bool false) (congrArg Value.bool h44) (k := ?_)
                              refine WL.op (d := 84) (.pointer (some ⟨b32, 1, none⟩)) (k := ?_)
                              refine WL.load (v := .int .i64 r28.at_) (ld1 (T := 3) (i := 1) hb40) (k := ?_)
                              refine WL.op (d := 86) (.bool (decide (r28.at_ > 64))) (k := ?_)
                              refine WL.op (d := 87) (.bool (decide (r28.at_ > 64))) (k := ?_)
                              refine WL.nil ?_
                              refine WX.seqN ?_
                              refine WC.cond (b := decide (r28.at_ > 64)) (ht := fun h45 => ?_) (hf := fun h45 => ?_)
                              · have ph45 := of_decide_eq_true h45
                                refine WC.seq ?_
                                refine WC.region ?_
                                refine WL.op (d := 2) (.bool false) (k := ?_)
                                refine WL.nil ?_
                                refine WX.seqN ?_
                                refine WC.ret ?_
                                refine WX.blockR ?_
                                refine WX.seqR ?_
                                refine WX.seqR ?_
                                refine WX.blockR ?_
                                refine WX.seqR ?_
                                refine WX.ret (rs := [.tmp 2]) [.bool false] (.bool false) ⟨(by kernel_rfl), trivial⟩ (k := ?_)
                                exact ⟨ret_bool (cok_fs1 hr29 (fun k => by simp only [GFate.ok] at k; omega)), K⟩
                              · have ph45 := of_decide_eq_false h45
                                refine WC.skip ?_
                                refine WX.blockN ?_
                                refine WX.seqN ?_
                                refine WC.region ?_
                                refine WL.op (d := 63) (.int .i64 i) (k := ?_)
                                refine WL.opE (d := 64) (.int .i64 (IntKind.i64.wrap (i + 1))) (v := .int .i64 (i + 1)) (congrArg (Value.int .i64) (IntWalk.i64_in _ (by omega))) (k := ?_)
                                refine WL.op (d := 4) (.int .i64 (i + 1)) (k := ?_)
                                refine WL.nil ?_
                                refine WX.round (i + 1) (by show (c.p.fs.length - (i + 1)).toNat < (c.p.fs.length - i).toNat; omega) ⟨(by kernel_rfl), (by kernel_rfl), (by kernel_rfl), (by kernel_rfl), (by kernel_rfl), (by kernel_rfl), (by kernel_rfl), (by kernel_rfl), (by kernel_rfl), (by kernel_rfl), (by kernel_rfl), (by kernel_rfl), (by kernel_rfl), (by kernel_rfl), (by kernel_rfl), (by kernel_rfl), (by kernel_rfl), (by kernel_rfl), (by kernel_rfl), (by kernel_rfl), (by kernel_rfl), (by kernel_rfl), (by kernel_rfl), (by kernel_rfl), (by kernel_rfl), (by kernel_rfl), (by kernel_rfl), (by kernel_rfl), (by kernel_rfl), (by kernel_rfl), (by kernel_rfl), (by kernel_rfl), (by kernel_rfl), (by kernel_rfl), (by kernel_rfl), (by kernel_rfl), (by kernel_rfl), (by kernel_rfl), (by kernel_rfl), (by kernel_rfl), (by kernel_rfl), (by kernel_rfl), (by kernel_rfl), (by kernel_rfl), (by kernel_rfl), (by kernel_rfl), (by kernel_rfl), (by kernel_rfl), (by kernel_rfl), (by kernel_rfl), (by kernel_rfl), (by kernel_rfl), (by kernel_rfl), (by kernel_rfl), (by kernel_rfl), (by kernel_rfl), trivial⟩ ⟨K, hb24, (by omega), (by omega), (upF_succ i0 iu hr29 (by simp only [GFate.ok]; omega))⟩
                      · have ph25 := of_decide_eq_false h25
                        refine WC.exit ?_
                        refine WX.seqE ?_
                        refine WX.seqE ?_
                        refine WX.blockE ?_
                        refine WX.seqN ?_
                        refine WC.seq ?_
                        refine WC.seq ?_
                        refine WC.region ?_
                        refine WL.op (d := 88) (.pointer (some ⟨b1, 0, none⟩)) (k := ?_)
                        refine WL.load (v := .int .i64 c.p.kind) (ld1 (T := 3) (i := 0) hb24) (k := ?_)
                        refine WL.op (d := 90) (.bool (c.p.kind == 1)) (k := ?_)
                        refine WL.nil ?_
                        refine WX.seqN ?_
                        refine WC.cond (b := c.p.kind == 1) (ht := fun h46 => ?_) (hf := fun h46 => ?_)
                        · have ph46 := eq_of_beq h46
                          refine WC.seq ?_
                          refine WC.region ?_
                          refine WL.op (d := 91) (.pointer (some ⟨b1, 1, none⟩)) (k := ?_)
                          refine WL.load (v := GOp.val c.p.op) (ldN (T := 29) (i := 1) (m := 10) (l := (Value.cells (GOp.val c.p.op)).toList) hb24) (k := ?_)
                          refine WL.callG (d := 93) (f := 26) (args := #[GOp.val c.p.op]) (u13Check_c c.p.op w23) (k := fun e_ w47 h_ => ⟨.bool (decide (GOp.ok c.p.op)), h_.1, ?_⟩)
                          have k48 := h_.2; clear h_
                          replace hb24 := k48.heap hb24 id
                          replace K := K.trans (k48.any _)
                          refine WL.op (d := 2) (.bool (decide (GOp.ok c.p.op))) (k := ?_)
                          refine WL.nil ?_
                          refine WX.seqN ?_
                          refine WC.ret ?_
                          refine WX.seqR ?_
                          refine WX.ret (rs := [.tmp 2]) [.bool (decide (GOp.ok c.p.op))] (.bool (decide (GOp.ok c.p.op))) ⟨(by kernel_rfl), trivial⟩ (k := ?_)
                          exact ⟨ret_bool (cok_op ph13 (by omega)), K⟩
                        · have ph46 := ne_of_beq_false h46
                          refine WC.skip ?_
                          refine WX.seqN ?_
                          refine WC.seq ?_
                          refine WC.region ?_
                          refine WL.op (d := 2) (.bool true) (k := ?_)
                          refine WL.nil ?_
                          refine WX.seqN ?_
                          refine WC.ret ?_
                          refine WX.ret (rs := [.tmp 2]) [.bool true] (.bool true) ⟨(by kernel_rfl), trivial⟩ (k := ?_)
                          exact ⟨ret_bool (cok_end2 ph13 (by simp only [PCmd.rngs]; omega) (by omega) (upF_end (i := i) (by omega) iu)), K⟩

end Go.Proofs.Ytfpdfjbooalgjaa
