/- Tables: what may be. -/
import Derived.Test.YtpkcohhfkeinmaaSt0
namespace Go.Proofs.Ytpkcohhfkeinmaa
open Go.RowKit
set_option linter.unusedVariables false
set_option linter.unusedSimpArgs false

set_option maxRecDepth 100000 in
theorem tCheck_c {A : Option Addr} {cp : Nat} {rows : List GRow} {md : Int} {w : World} (hA : SlAt rowC 6 53 A rows w) (hn : rows.length ≤ 1000000000) : Calls Try.prog 36 #[.agg #[.slice A rows.length cp, .int .i64 md]] w fun e w' => e = .returned (.bool (tokB ⟨rows, md⟩)) ∧ Adds w w' := by
  have K : Keeps (fun _ => False) w w := Keeps.refl _ w
  refine Calls.start Try.func36 rfl (by kernel_rfl) ?_
  refine WC.seq ?_
  refine WC.region ?_
  refine WL.new (d := 1) (T := 24) #[.slice A rows.length cp, .int .i64 md] (k := fun b1 w2 g3 hb4 k5 => ?_)
  have z6 := Nat.le_trans K.size g3
  replace K := K.trans (k5.any _)
  refine WL.op (d := 2) (.bool false) (k := ?_)
  refine WL.nil ?_
  refine WX.seqN ?_
  refine WC.seq ?_
  refine WC.seq ?_
  refine WC.region ?_
  refine WL.op (d := 5) (.pointer (some ⟨b1, 0, none⟩)) (k := ?_)
  refine WL.load (v := .slice A rows.length cp) (ld1 (T := 22) (i := 0) hb4) (k := ?_)
  refine WL.op (d := 7) (.int .i64 (rows.length : Int)) (k := ?_)
  refine WL.op (d := 8) (.int .i64 0) (k := ?_)
  refine WL.nil ?_
  refine WX.seqN ?_
  refine WC.block ?_
  refine WC.loop (ι := Int) (fun (i : Int) => [(0, .agg #[.slice A rows.length cp, .int .i64 md]), (1, .pointer (some ⟨b1, 0, none⟩)), (5, .pointer (some ⟨b1, 0, none⟩)), (6, .slice A rows.length cp), (7, .int .i64 (rows.length : Int)), (8, .int .i64 i)]) (fun (i : Int) (w_ : World) => (Keeps (fun _ => False) w w_) ∧ (w_.heap[b1]? = some (.cells #[.slice A rows.length cp, .int .i64 md] 24 (0, 0))) ∧ (0 ≤ i) ∧ (i ≤ rows.length) ∧ (upTo rows i.toNat)) (fun (i : Int) => (rows.length - i).toNat) 0 ⟨(by kernel_rfl), (by kernel_rfl), (by kernel_rfl), (by kernel_rfl), (by kernel_rfl), (by kernel_rfl), trivial⟩ ⟨K, hb4, Int.le_refl 0, (by omega), upTo_zero rows⟩ ?_
  rintro i w7 ⟨K, hb8, i0, i1, iu⟩
  refine WC.seq ?_
  refine WC.region ?_
  refine WL.op (d := 9) (.bool (decide (i < (rows.length : Int)))) (k := ?_)
  refine WL.nil ?_
  refine WX.seqN ?_
  refine WC.seq ?_
  refine WC.cond (b := decide (i < (rows.length : Int))) (ht := fun h9 => ?_) (hf := fun h9 => ?_)
  · have ph9 := of_decide_eq_true h9
    refine WC.skip ?_
    refine WX.seqN ?_
    refine WC.seq ?_
    refine WC.block ?_
    refine WC.seq ?_
    refine WC.region ?_
    refine WL.op (d := 10) (.int .i64 i) (k := ?_)
    obtain ⟨b10, o11, r12, hr13, hA14, he15⟩ := SlAt.at hA (i := i) (by omega) (by omega)
    refine WL.rw (t := 6) (v := .slice (some ⟨b10, o11, none⟩) rows.length cp) (congrArg (fun a => Value.slice a rows.length cp) hA14) (k := ?_)
    refine WL.idx (T := 22) (E := 53) (m := 6) (b := b10) (o := o11) (len := rows.length) (cap := cp) (i := i) (kk := .i64) (d := 11) (by omega) (by omega) (k := ?_)
    refine WL.rw (t := 6) (v := .slice A rows.length cp) (congrArg (fun a => Value.slice a rows.length cp) (Eq.symm hA14)) (k := ?_)
    refine WL.load (v := GRow.val r12) ((he15.adds K).ldW (T := 53)) (k := ?_)
    refine WL.new (d := 4) (T := 53) #[.int .i64 0, .int .i64 0, .int .i64 0, .int .i64 0, .int .i64 0, .bool false] (k := fun b16 w17 g18 hb19 k20 => ?_)
    have z21 := Nat.le_trans K.size g18
    have n22 : b1 ≠ b16 := Nat.ne_of_lt (Nat.lt_of_lt_of_le (lt_of_heap hb8) g18)
    replace hb8 := k20.heap hb8 id
    replace K := K.trans (k20.any _)
    refine WL.op (d := 3) (.int .i64 i) (k := ?_)
    refine WL.store (v := GRow.val r12) (i := 0) (cs' := (Value.cells (GRow.val r12))) hb19 (k := fun w23 hb24 k25 => ?_)
    replace hb8 := k25.heap hb8 n22
    replace K := K.trans' k25 (fun i hi e => absurd (e ▸ hi) (Nat.not_lt.2 z21))
    clear hb19
    refine WL.nil ?_
    refine WX.seqN ?_
    refine WC.seq ?_
    refine WC.quiet (k := ?_)
    refine WQ.op (d := 13) (.pointer (some ⟨b16, 0, none⟩)) (k := ?_)
    refine WQ.load (v := GTask.val r12.task) (fun w_ k_ => ldN (T := 44) (i := 0) (m := 5) (l := (Value.cells (GTask.val r12.task)).toList) (k_.heap hb24 id)) (k := ?_)
    refine WQ.callG (d := 15) (f := 81) (args := #[GTask.val r12.task]) (v := .bool (decide (GTask.ok r12.task))) (fun w_ k_ => pCheck_c r12.task w_) addsR (k := ?_)
    refine WQ.op (d := 16) (.bool (!(decide (GTask.ok r12.task)))) (k := ?_)
    refine WQ.op (d := 17) (.bool (!(decide (GTask.ok r12.task)))) (k := ?_)
    refine bsplit (!(decide (GTask.ok r12.task))) (fun h26 => ?_) (fun h26 => ?_)
    · have h27 : (decide (GTask.ok r12.task)) = false := by simpa using h26
      have ph27 := of_decide_eq_false h27
      refine WQ.rw (t := 17) (v := .bool true) (congrArg Value.bool h26) (k := ?_)
      refine WQ.skip (d := 18) (k := ?_)
      refine WQ.skip (d := 19) (k := ?_)
      refine WQ.skip (d := 20) (k := ?_)
      refine WQ.skip (d := 21) (k := ?_)
      refine WQ.skip (d := 22) (k := ?_)
      refine WQ.skip (d := 23) (k := ?_)
      refine WQ.skip (d := 24) (k := ?_)
      refine WQ.skip (d := 25) (k := ?_)
      refine WQ.skip (d := 26) (k := ?_)
      refine WQ.skip (d := 27) (k := ?_)
      refine WQ.skip (d := 28) (k := ?_)
      refine WQ.op (d := 29) (.bool true) (k := ?_)
      refine WQ.op (d := 30) (.bool true) (k := ?_)
      refine WQ.skip (d := 31) (k := ?_)
      refine WQ.skip (d := 32) (k := ?_)
      refine WQ.skip (d := 33) (k := ?_)
      refine WQ.skip (d := 34) (k := ?_)
      refine WQ.skip (d := 35) (k := ?_)
      refine WQ.skip (d := 36) (k := ?_)
      refine WQ.skip (d := 37) (k := ?_)
      refine WQ.skip (d := 38) (k := ?_)
      refine WQ.skip (d := 39) (k := ?_)
      refine WQ.skip (d := 40) (k := ?_)
      refine WQ.skip (d := 41) (k := ?_)
      refine WQ.skip (d := 42) (k := ?_)
      refine WQ.skip (d := 43) (k := ?_)
      refine WQ.skip (d := 44) (k := ?_)
      refine WQ.skip (d := 45) (k := ?_)
      refine WQ.skip (d := 46) (k := ?_)
      refine WQ.op (d := 47) (.bool true) (k := ?_)
      refine WQ.nilX (fun w28 k29 => ?_)
      replace hb8 := k29.heap hb8 id
      replace hb24 := k29.heap hb24 id
      replace K := K.trans (k29.any _)
      refine WX.seqN ?_
      refine WC.condT (k := ?_)
      refine WC.seq ?_
      refine WC.region ?_
      refine WL.op (d := 2) (.bool false) (k := ?_)
      refine WL.nil ?_
      refine WX.seqN ?_
      refine WC.ret ?_
      refine WX.blockR ?_
      refine WX.seqR ?_
      refine WX.seqR ?_
      refine WX.blockR ?_
      refine WX.seqR ?_
      refine WX.ret (rs := [.tmp 2]) [.bool false] (.bool false) ⟨(by kernel_rfl), trivial⟩ (k := ?_)
      exact ⟨ret_bool (upTo_bad1 (t := ⟨rows, md⟩) hr13 (fun h => ph27 h.1)), K⟩
    · have h30 : (decide (GTask.ok r12.task)) = true := by simpa using h26
      have ph30 := of_decide_eq_true h30
      refine WQ.rw (t := 17) (v := .bool false) (congrArg Value.bool h26) (k := ?_)
      refine WQ.op (d := 18) (.pointer (some ⟨b16, 5, none⟩)) (k := ?_)
      refine WQ.load (v := .bool r12.sv) (fun w_ k_ => ld1 (T := 4) (i := 5) (k_.heap hb24 id)) (k := ?_)
      refine WQ.op (d := 20) (.bool r12.sv) (k := ?_)
      refine bsplit r12.sv (fun h31 => ?_) (fun h31 => ?_)
      · refine WQ.rw (t := 20) (v := .bool true) (congrArg Value.bool h31) (k := ?_)
        refine WQ.op (d := 21) (.pointer (some ⟨b16, 0, none⟩)) (k := ?_)
        refine WQ.op (d := 22) (.pointer (some ⟨b16, 2, none⟩)) (k := ?_)
        refine WQ.load (v := .int .i64 r12.task.d) (fun w_ k_ => ld1 (T := 2) (i := 2) (k_.heap hb24 id)) (k := ?_)
        refine WQ.op (d := 24) (.pointer (some ⟨b16, 0, none⟩)) (k := ?_)
        refine WQ.op (d := 25) (.pointer (some ⟨b16, 3, none⟩)) (k := ?_)
        refine WQ.load (v := .int .i64 r12.task.t) (fun w_ k_ => ld1 (T := 2) (i := 3) (k_.heap hb24 id)) (k := ?_)
        refine WQ.op (d := 27) (.bool (r12.task.d != r12.task.t)) (k := ?_)
        refine WQ.op (d := 28) (.bool (r12.task.d != r12.task.t)) (k := ?_)
        refine WQ.op (d := 29) (.bool (r12.task.d != r12.task.t)) (k := ?_)
        refine WQ.op (d := 30) (.bool (r12.task.d != r12.task.t)) (k := ?_)
        refine bsplit (r12.task.d != r12.task.t) (fun h32 => ?_) (fun h32 => ?_)
        · have ph32 := bne_iff_ne.1 h32
          refine WQ.rw (t := 30) (v := .bool true) (congrArg Value.bool h32) (k := ?_)
          refine WQ.skip (d := 31) (k := ?_)
          refine WQ.skip (d := 32) (k := ?_)
          refine WQ.skip (d := 33) (k := ?_)
          refine WQ.skip (d := 34) (k := ?_)
          refine WQ.skip (d := 35) (k := ?_)
          refine WQ.skip (d := 36) (k := ?_)
          refine WQ.skip (d := 37) (k := ?_)
          refine WQ.skip (d := 38) (k := ?_)
          refine WQ.skip (d := 39) (k := ?_)
          refine WQ.skip (d := 40) (k := ?_)
          refine WQ.skip (d := 41) (k := ?_)
          refine WQ.skip (d := 42) (k := ?_)
          refine WQ.skip (d := 43) (k := ?_)
          refine WQ.skip (d := 44) (k := ?_)
          refine WQ.skip (d := 45) (k := ?_)
          refine WQ.skip (d := 46) (k := ?_)
          refine WQ.op (d := 47) (.bool true) (k := ?_)
          refine WQ.nilX (fun w33 k34 => ?_)
          replace hb8 := k34.heap hb8 id
          replace hb24 := k34.heap hb24 id
          replace K := K.trans (k34.any _)
          refine WX.seqN ?_
          refine WC.condT (k := ?_)
          refine WC.seq ?_
          refine WC.region ?_
          refine WL.op (d := 2) (.bool false) (k := ?_)
          refine WL.nil ?_
          refine WX.seqN ?_
          refine WC.ret ?_
          refine WX.blockR ?_
          refine WX.seqR ?_
          refine WX.seqR ?_
          refine WX.blockR ?_
          refine WX.seqR ?_
          refine WX.ret (rs := [.tmp 2]) [.bool false] (.bool false) ⟨(by kernel_rfl), trivial⟩ (k := ?_)
          exact ⟨ret_bool (upTo_bad1 (t := ⟨rows, md⟩) hr13 (fun h => ph32 (h.2 h31))), K⟩
        · have ph32 := of_bne_false h32
          refine WQ.rw (t := 30) (v := .bool false) (congrArg Value.bool h32) (k := ?_)
          refine WQ.op (d := 31) (.int .i64 i) (k := ?_)
          refine WQ.op (d := 32) (.bool (decide (i > 0))) (k := ?_)
          refine WQ.op (d := 33) (.bool (decide (i > 0))) (k := ?_)
          refine bsplit (decide (i > 0)) (fun h35 => ?_) (fun h35 => ?_)
          · have ph35 := of_decide_eq_true h35
            refine WQ.rw (t := 33) (v := .bool true) (congrArg Value.bool h35) (k := ?_)
            refine WQ.op (d := 34) (.pointer (some ⟨b1, 0, none⟩)) (k := ?_)
            refine WQ.load (v := .slice A rows.length cp) (fun w_ k_ => ld1 (T := 22) (i := 0) (k_.heap hb8 id)) (k := ?_)
            refine WQ.op (d := 36) (.int .i64 i) (k := ?_)
            refine WQ.opE (d := 37) (.int .i64 (IntKind.i64.wrap (i - 1))) (v := .int .i64 (i - 1)) (congrArg (Value.int .i64) (IntWalk.i64_in _ (by omega))) (k := ?_)
            obtain ⟨b36, o37, r38, hr39, hA40, he41⟩ := SlAt.at hA (i := i - 1) (by omega) (by omega)
            refine WQ.rw (t := 35) (v := .slice (some ⟨b36, o37, none⟩) rows.length cp) (congrArg (fun a => Value.slice a rows.length cp) hA40) (k := ?_)
            refine WQ.idx (T := 22) (E := 53) (m := 6) (b := b36) (o := o37) (len := rows.length) (cap := cp) (i := i - 1) (kk := .i64) (d := 38) (by omega) (by omega) (k := ?_)
            refine WQ.rw (t := 35) (v := .slice A rows.length cp) (congrArg (fun a => Value.slice a rows.length cp) (Eq.symm hA40)) (k := ?_)
            refine WQ.op (d := 39) (.pointer (some ⟨b36, o37 + (i - 1).toNat * 6, none⟩)) (k := ?_)
            refine WQ.op (d := 40) (.pointer (some ⟨b36, o37 + (i - 1).toNat * 6, none⟩)) (k := ?_)
            refine WQ.load (v := .int .i64 r38.task.id) (fun w_ k_ => ((he41.adds K).adds k_).ld0 (T := 3)) (k := ?_)
            refine WQ.op (d := 42) (.pointer (some ⟨b16, 0, none⟩)) (k := ?_)
            refine WQ.op (d := 43) (.pointer (some ⟨b16, 0, none⟩)) (k := ?_)
            refine WQ.load (v := .int .i64 r12.task.id) (fun w_ k_ => ld1 (T := 3) (i := 0) (k_.heap hb24 id)) (k := ?_)
            refine WQ.op (d := 45) (.bool (decide (r38.task.id ≥ r12.task.id))) (k := ?_)
            refine WQ.op (d := 46) (.bool (decide (r38.task.id ≥ r12.task.id))) (k := ?_)
            refine WQ.op (d := 47) (.bool (decide (r38.task.id ≥ r12.task.id))) (k := ?_)
            refine WQ.nilX (fun w42 k43 => ?_)
            replace hb8 := k43.heap hb8 id
            replace hb24 := k43.heap hb24 id
            replace K := K.trans (k43.any _)
            refine WX.seqN ?_
            refine WC.cond (b := decide (r38.task.id ≥ r12.task.id)) (ht := fun h44 => ?_) (hf := fun h44 => ?_)
            · have ph44 := of_decide_eq_true h44
              refine WC.seq ?_
              refine WC.region ?_
              refine WL.op (d := 2) (.bool false) (k := ?_)
              refine WL.nil ?_
              refine WX.seqN ?_
              refine WC.ret ?_
              refine WX.blockR ?_
              refine WX.seqR ?_
              refine WX.seqR ?_
              refine WX.blockR ?_
              refine WX.seqR ?_
              refine WX.ret (rs := [.tmp 2]) [.bool false] (.bool false) ⟨(by kernel_rfl), trivial⟩ (k := ?_)
              exact ⟨ret_bool (upTo_bad2 (t := ⟨rows, md⟩) hr13 (by omega) hr39 (by omega)), K⟩
            · have ph44 := of_decide_eq_false h44
              refine WC.skip ?_
              refine WX.blockN ?_
              refine WX.seqN ?_
              refine WC.region ?_
              refine WL.opE (d := 48) (.int .i64 (IntKind.i64.wrap (i + 1))) (v := .int .i64 (i + 1)) (congrArg (Value.int .i64) (IntWalk.i64_in _ (by omega))) (k := ?_)
              refine WL.op (d := 8) (.int .i64 (i + 1)) (k := ?_)
              refine WL.nil ?_
              refine WX.round (i + 1) (by show (rows.length - (i + 1)).toNat < (rows.length - i).toNat; omega) ⟨(by kernel_rfl), (by kernel_rfl), (by kernel_rfl), (by kernel_rfl), (by kernel_rfl), (by kernel_rfl), trivial⟩ ⟨K, hb8, (by omega), (by omega), (upTo_succ i0 iu hr13 ⟨ph30, (fun _ => ph32)⟩ (fun q _ hq => by rw [hr39] at hq; cases hq; omega))⟩
          · have ph35 := of_decide_eq_false h35
            refine WQ.rw (t := 33) (v := .bool false) (congrArg Value.bool h35) (k := ?_)
            refine WQ.skip (d := 34) (k := ?_)
            refine WQ.skip (d := 35) (k := ?_)
            refine WQ.skip (d := 36) (k := ?_)
            refine WQ.skip (d := 37) (k := ?_)
            refine WQ.skip (d := 38) (k := ?_)
            refine WQ.skip (d := 39) (k := ?_)
            refine WQ.skip (d := 40) (k := ?_)
            refine WQ.skip (d := 41) (k := ?_)
            refine WQ.skip (d := 42) (k := ?_)
            refine WQ.skip (d := 43) (k := ?_)
            refine WQ.skip (d := 44) (k := ?_)
            refine WQ.skip (d := 45) (k := ?_)
            refine WQ.op (d := 46) (.bool false) (k := ?_)
            refine WQ.op (d := 47) (.bool false) (k := ?_)
            refine WQ.nilX (fun w45 k46 => ?_)
            replace hb8 := k46.heap hb8 id
            replace hb24 := k46.heap hb24 id
            replace K := K.trans (k46.any _)
            refine WX.seqN ?_
            refine WC.condF (k := ?_)
            refine WC.skip ?_
            refine WX.blockN ?_
            refine WX.seqN ?_
            refine WC.region ?_
            refine WL.opE (d := 48) (.int .i64 (IntKind.i64.wrap (i + 1))) (v := .int .i64 (i + 1)) (congrArg (Value.int .i64) (IntWalk.i64_in _ (by omega))) (k := ?_)
            refine WL.op (d := 8) (.int .i64 (i + 1)) (k := ?_)
            refine WL.nil ?_
            refine WX.round (i + 1) (by show (rows.length - (i + 1)).toNat < (rows.length - i).toNat; omega) ⟨(by kernel_rfl), (by kernel_rfl), (by kernel_rfl), (by kernel_rfl), (by kernel_rfl), (by kernel_rfl), trivial⟩ ⟨K, hb8, (by omega), (by omega), (upTo_succ i0 iu hr13 ⟨ph30, (fun _ => ph32)⟩ (fun q h0 _ => by omega))⟩
      · refine WQ.rw (t := 20) (v := .bool false) (congrArg Value.bool h31) (k := ?_)
        refine WQ.skip (d := 21) (k := ?_)
        refine WQ.skip (d := 22) (k := ?_)
        refine WQ.skip (d := 23) (k := ?_)
        refine WQ.skip (d := 24) (k := ?_)
        refine WQ.skip (d := 25) (k := ?_)
        refine WQ.skip (d := 26) (k := ?_)
        refine WQ.skip (d := 27) (k := ?_)
        refine WQ.op (d := 28) (.bool false) (k := ?_)
        refine WQ.op (d := 29) (.bool false) (k := ?_)
        refine WQ.op (d := 30) (.bool false) (k := ?_)
        refine WQ.op (d := 31) (.int .i64 i) (k := ?_)
        refine WQ.op (d := 32) (.bool (decide (i > 0))) (k := ?_)
        refine WQ.op (d := 33) (.bool (decide (i > 0))) (k := ?_)
        refine bsplit (decide (i > 0)) (fun h47 => ?_) (fun h47 => ?_)
        · have ph47 := of_decide_eq_true h47
          refine WQ.rw (t := 33) (v := .bool true) (congrArg Value.bool h47) (k := ?_)
          refine WQ.op (d := 34) (.pointer (some ⟨b1, 0, none⟩)) (k := ?_)
          refine WQ.load (v := .slice A rows.length cp) (fun w_ k_ => ld1 (T := 22) (i := 0) (k_.heap hb8 id)) (k := ?_)
          refine WQ.op (d := 36) (.int .i64 i) (k := ?_)
          refine WQ.opE (d := 37) (.int .i64 (IntKind.i64.wrap (i - 1))) (v := .int .i64 (i - 1)) (congrArg (Value.int .i64) (IntWalk.i64_in _ (by omega))) (k := ?_)
          obtain ⟨b48, o49, r50, hr51, hA52, he53⟩ := SlAt.at hA (i := i - 1) (by omega) (by omega)
          refine WQ.rw (t := 35) (v := .slice (some ⟨b48, o49, none⟩) rows.length cp) (congrArg (fun a => Value.slice a rows.length cp) hA52) (k := ?_)
          refine WQ.idx (T := 22) (E := 53) (m := 6) (b := b48) (o := o49) (len := rows.length) (cap := cp) (i := i - 1) (kk := .i64) (d := 38) (by omega) (by omega) (k := ?_)
          refine WQ.rw (t := 35) (v := .slice A rows.length cp) (congrArg (fun a => Value.slice a rows.length cp) (Eq.symm hA52)) (k := ?_)
          refine WQ.op (d := 39) (.pointer (some ⟨b48, o49 + (i - 1).toNat * 6, none⟩)) (k := ?_)
          refine WQ.op (d := 40) (.pointer (some ⟨b48, o49 + (i - 1).toNat * 6, none⟩)) (k := ?_)
          refine WQ.load (v := .int .i64 r50.task.id) (fun w_ k_ => ((he53.adds K).adds k_).ld0 (T := 3)) (k := ?_)
          refine WQ.op (d := 42) (.pointer (some ⟨b16, 0, none⟩)) (k := ?_)
          refine WQ.op (d := 43) (.pointer (some ⟨b16, 0, none⟩)) (k := ?_)
          refine WQ.load (v := .int .i64 r12.task.id) (fun w_ k_ => ld1 (T := 3) (i := 0) (k_.heap hb24 id)) (k := ?_)
          refine WQ.op (d := 45) (.bool (decide (r50.task.id ≥ r12.task.id))) (k := ?_)
          refine WQ.op (d := 46) (.bool (decide (r50.task.id ≥ r12.task.id))) (k := ?_)
          refine WQ.op (d := 47) (.bool (decide (r50.task.id ≥ r12.task.id))) (k := ?_)
          refine WQ.nilX (fun w54 k55 => ?_)
          replace hb8 := k55.heap hb8 id
          replace hb24 := k55.heap hb24 id
          replace K := K.trans (k55.any _)
          refine WX.seqN ?_
          refine WC.cond (b := decide (r50.task.id ≥ r12.task.id)) (ht := fun h56 => ?_) (hf := fun h56 => ?_)
          · have ph56 := of_decide_eq_true h56
            refine WC.seq ?_
            refine WC.region ?_
            refine WL.op (d := 2) (.bool false) (k := ?_)
            refine WL.nil ?_
            refine WX.seqN ?_
            refine WC.ret ?_
            refine WX.blockR ?_
            refine WX.seqR ?_
            refine WX.seqR ?_
            refine WX.blockR ?_
            refine WX.seqR ?_
            refine WX.ret (rs := [.tmp 2]) [.bool false] (.bool false) ⟨(by kernel_rfl), trivial⟩ (k := ?_)
            exact ⟨ret_bool (upTo_bad2 (t := ⟨rows, md⟩) hr13 (by omega) hr51 (by omega)), K⟩
          · have ph56 := of_decide_eq_false h56
            refine WC.skip ?_
            refine WX.blockN ?_
            refine WX.seqN ?_
            refine WC.region ?_
            refine WL.opE (d := 48) (.int .i64 (IntKind.i64.wrap (i + 1))) (v := .int .i64 (i + 1)) (congrArg (Value.int .i64) (IntWalk.i64_in _ (by omega))) (k := ?_)
            refine WL.op (d := 8) (.int .i64 (i + 1)) (k := ?_)
            refine WL.nil ?_
            refine WX.round (i + 1) (by show (rows.length - (i + 1)).toNat < (rows.length - i).toNat; omega) ⟨(by kernel_rfl), (by kernel_rfl), (by kernel_rfl), (by kernel_rfl), (by kernel_rfl), (by kernel_rfl), trivial⟩ ⟨K, hb8, (by omega), (by omega), (upTo_succ i0 iu hr13 ⟨ph30, (fun e => absurd e (by simp [h31]))⟩ (fun q _ hq => by rw [hr51] at hq; cases hq; omega))⟩
        · have ph47 := of_decide_eq_false h47
          refine WQ.rw (t := 33) (v := .bool false) (congrArg Value.bool h47) (k := ?_)
          refine WQ.skip (d := 34) (k := ?_)
          refine WQ.skip (d := 35) (k := ?_)
          refine WQ.skip (d := 36) (k := ?_)
          refine WQ.skip (d := 37) (k := ?_)
          refine WQ.skip (d := 38) (k := ?_)
          refine WQ.skip (d := 39) (k := ?_)
          refine WQ.skip (d := 40) (k := ?_)
          refine WQ.skip (d := 41) (k := ?_)
          refine WQ.skip (d := 42) (k := ?_)
          refine WQ.skip (d := 43) (k := ?_)
          refine WQ.skip (d := 44) (k := ?_)
          refine WQ.skip (d := 45) (k := ?_)
          refine WQ.op (d := 46) (.bool false) (k := ?_)
          refine WQ.op (d := 47) (.bool false) (k := ?_)
          refine WQ.nilX (fun w57 k58 => ?_)
          replace hb8 := k58.heap hb8 id
          replace hb24 := k58.heap hb24 id
          replace K := K.trans (k58.any _)
          refine WX.seqN ?_
          refine WC.condF (k := ?_)
          refine WC.skip ?_
          refine WX.blockN ?_
          refine WX.seqN ?_
          refine WC.region ?_
          refine WL.opE (d := 48) (.int .i64 (IntKind.i64.wrap (i + 1))) (v := .int .i64 (i + 1)) (congrArg (Value.int .i64) (IntWalk.i64_in _ (by omega))) (k := ?_)
          refine WL.op (d := 8) (.int .i64 (i + 1)) (k := ?_)
          refine WL.nil ?_
          refine WX.round (i + 1) (by show (rows.length - (i + 1)).toNat < (rows.length - i).toNat; omega) ⟨(by kernel_rfl), (by kernel_rfl), (by kernel_rfl), (by kernel_rfl), (by kernel_rfl), (by kernel_rfl), trivial⟩ ⟨K, hb8, (by omega), (by omega), (upTo_succ i0 iu hr13 ⟨ph30, (fun e => absurd e (by simp [h31]))⟩ (fun q h0 _ => by omega))⟩
  · have ph9 := of_decide_eq_false h9
    refine WC.exit ?_
    refine WX.seqE ?_
    refine WX.seqE ?_
    refine WX.blockE ?_
    refine WX.seqN ?_
    refine WC.seq ?_
    refine WC.region ?_
    refine WL.op (d := 49) (.pointer (some ⟨b1, 0, none⟩)) (k := ?_)
    refine WL.load (v := .slice A rows.length cp) (ld1 (T := 22) (i := 0) hb8) (k := ?_)
    refine WL.op (d := 51) (.int .i64 (rows.length : Int)) (k := ?_)
    refine WL.op (d := 52) (.bool (decide ((rows.length : Int) ≤ 16))) (k := ?_)
    refine WL.op (d := 53) (.bool (decide ((rows.length : Int) ≤ 16))) (k := ?_)
    refine bsplit (decide ((rows.length : Int) ≤ 16)) (fun h59 => ?_) (fun h59 => ?_)
    · have ph59 := of_decide_eq_true h59
      refine WL.rw (t := 53) (v := .bool true) (congrArg Value.bool h59) (k := ?_)
      refine WL.op (d := 54) (.pointer (some ⟨b1, 1, none⟩)) (k := ?_)
      refine WL.load (v := .int .i64 md) (ld1 (T := 3) (i := 1) hb8) (k := ?_)
      refine WL.op (d := 56) (.bool (decide (md ≥ 0))) (k := ?_)
      refine WL.op (d := 57) (.bool (decide (md ≥ 0))) (k := ?_)
      refine WL.op (d := 58) (.bool (decide (md ≥ 0))) (k := ?_)
      refine bsplit (decide (md ≥ 0)) (fun h60 => ?_) (fun h60 => ?_)
      · have ph60 := of_decide_eq_true h60
        refine WL.rw (t := 58) (v := .bool true) (congrArg Value.bool h60) (k := ?_)
        refine WL.op (d := 59) (.pointer (some ⟨b1, 1, none⟩)) (k := ?_)
        refine WL.load (v := .int .i64 md) (ld1 (T := 3) (i := 1) hb8) (k := ?_)
        refine WL.op (d := 61) (.bool (decide (md < 4))) (k := ?_)
        refine WL.op (d := 62) (.bool (decide (md < 4))) (k := ?_)
        refine WL.op (d := 2) (.bool (decide (md < 4))) (k := ?_)
        refine WL.nil ?_
        refine WX.seqN ?_
        refine WC.ret ?_
        refine WX.ret (rs := [.tmp 2]) [.bool (decide (md < 4))] (.bool (decide (md < 4))) ⟨(by kernel_rfl), trivial⟩ (k := ?_)
        exact ⟨ret_bool (tok_end (i := i) (by omega) iu ⟨fun h => by have := of_decide_eq_true h; omega, fun h => decide_eq_true (by omega)⟩), K⟩
      · have ph60 := of_decide_eq_false h60
        refine WL.rw (t := 58) (v := .bool false) (congrArg Value.bool h60) (k := ?_)
        refine WL.skip (d := 59) (k := ?_)
        refine WL.skip (d := 60) (k := ?_)
        refine WL.skip (d := 61) (k := ?_)
        refine WL.op (d := 62) (.bool false) (k := ?_)
        refine WL.op (d := 2) (.bool false) (k := ?_)
        refine WL.nil ?_
        refine WX.seqN ?_
        refine WC.ret ?_
        refine WX.ret (rs := [.tmp 2]) [.bool false] (.bool false) ⟨(by kernel_rfl), trivial⟩ (k := ?_)
        exact ⟨ret_bool (tok_end (i := i) (by omega) iu ⟨fun h => absurd h (by decide), fun h => absurd h (by omega)⟩), K⟩
    · have ph59 := of_decide_eq_false h59
      refine WL.rw (t := 53) (v := .bool false) (congrArg Value.bool h59) (k := ?_)
      refine WL.skip (d := 54) (k := ?_)
      refine WL.skip (d := 55) (k := ?_)
      refine WL.skip (d := 56) (k := ?_)
      refine WL.op (d := 57) (.bool false) (k := ?_)
      refine WL.op (d := 58) (.bool false) (k := ?_)
      refine WL.skip (d := 59) (k := ?_)
      refine WL.skip (d := 60) (k := ?_)
      refine WL.skip (d := 61) (k := ?_)
      refine WL.op (d := 62) (.bool false) (k := ?_)
      refine WL.op (d := 2) (.bool false) (k := ?_)
      refine WL.nil ?_
      refine WX.seqN ?_
      refine WC.ret ?_
      refine WX.ret (rs := [.tmp 2]) [.bool false] (.bool false) ⟨(by kernel_rfl), trivial⟩ (k := ?_)
      exact ⟨ret_bool (tok_end (i := i) (by omega) iu ⟨fun h => absurd h (by decide), fun h => absurd h (by omega)⟩), K⟩

set_option maxRecDepth 100000 in
theorem u14Check_c {A : Option Addr} {cp : Nat} {rows : List GRow} {md : Int} {w : World} (hA : SlAt rowC 6 53 A rows w) (hn : rows.length ≤ 1000000000) : Calls Try.prog 55 #[.agg #[.slice A rows.length cp, .int .i64 md]] w fun e w' => e = .returned (.bool (tokB ⟨rows, md⟩)) ∧ Adds w w' := by
  have K : Keeps (fun _ => False) w w := Keeps.refl _ w
  refine Calls.start Try.func55 rfl (by kernel_rfl) ?_
  refine WC.seq ?_
  refine WC.region ?_
  refine WL.new (d := 1) (T := 24) #[.slice A rows.length cp, .int .i64 md] (k := fun b1 w2 g3 hb4 k5 => ?_)
  have z6 := Nat.le_trans K.size g3
  replace K := K.trans (k5.any _)
  refine WL.op (d := 2) (.bool false) (k := ?_)
  refine WL.nil ?_
  refine WX.seqN ?_
  refine WC.seq ?_
  refine WC.seq ?_
  refine WC.region ?_
  refine WL.op (d := 3) (.int .i64 0) (k := ?_)
  refine WL.nil ?_
  refine WX.seqN ?_
  refine WC.block ?_
  refine WC.loop (ι := Int) (fun (i : Int) => [(0, .agg #[.slice A rows.length cp, .int .i64 md]), (1, .pointer (some ⟨b1, 0, none⟩)), (3, .int .i64 i)]) (fun (i : Int) (w_ : World) => (Keeps (fun _ => False) w w_) ∧ (w_.heap[b1]? = some (.cells #[.slice A rows.length cp, .int .i64 md] 24 (0, 0))) ∧ (0 ≤ i) ∧ (i ≤ rows.length) ∧ (upTo rows i.toNat)) (fun (i : Int) => (rows.length - i).toNat) 0 ⟨(by kernel_rfl), (by kernel_rfl), (by kernel_rfl), trivial⟩ ⟨K, hb4, Int.le_refl 0, (by omega), upTo_zero rows⟩ ?_
  rintro i w7 ⟨K, hb8, i0, i1, iu⟩
  refine WC.seq ?_
  refine WC.seq ?_
  refine WC.region ?_
  refine WL.op (d := 6) (.int .i64 i) (k := ?_)
  refine WL.op (d := 7) (.pointer (some ⟨b1, 0, none⟩)) (k := ?_)
  refine WL.load (v := .slice A rows.length cp) (ld1 (T := 22) (i := 0) hb8) (k := ?_)
  refine WL.op (d := 9) (.int .i64 (rows.length : Int)) (k := ?_)
  refine WL.op (d := 10) (.bool (decide (i < (rows.length : Int)))) (k := ?_)
  refine WL.nil ?_
  refine WX.seqN ?_
  refine WC.cond (b := decide (i < (rows.length : Int))) (ht := fun h9 => ?_) (hf := fun h9 => ?_)
  · have ph9 := of_decide_eq_true h9
    refine WC.skip ?_
    refine WX.seqN ?_
    refine WC.seq ?_
    refine WC.block ?_
    refine WC.seq ?_
    refine WC.region ?_
    refine WL.op (d := 13) (.pointer (some ⟨b1, 0, none⟩)) (k := ?_)
    refine WL.load (v := .slice A rows.length cp) (ld1 (T := 22) (i := 0) hb8) (k := ?_)
    refine WL.op (d := 15) (.int .i64 i) (k := ?_)
    obtain ⟨b10, o11, r12, hr13, hA14, he15⟩ := SlAt.at hA (i := i) (by omega) (by omega)
    refine WL.rw (t := 14) (v := .slice (some ⟨b10, o11, none⟩) rows.length cp) (congrArg (fun a => Value.slice a rows.length cp) hA14) (k := ?_)
    refine WL.idx (T := 22) (E := 53) (m := 6) (b := b10) (o := o11) (len := rows.length) (cap := cp) (i := i) (kk := .i64) (d := 16) (by omega) (by omega) (k := ?_)
    refine WL.rw (t := 14) (v := .slice A rows.length cp) (congrArg (fun a => Value.slice a rows.length cp) (Eq.symm hA14)) (k := ?_)
    refine WL.load (v := GRow.val r12) ((he15.adds K).ldW (T := 53)) (k := ?_)
    refine WL.new (d := 4) (T := 53) #[.int .i64 0, .int .i64 0, .int .i64 0, .int .i64 0, .int .i64 0, .bool false] (k := fun b16 w17 g18 hb19 k20 => ?_)
    have z21 := Nat.le_trans K.size g18
    have n22 : b1 ≠ b16 := Nat.ne_of_lt (Nat.lt_of_lt_of_le (lt_of_heap hb8) g18)
    replace hb8 := k20.heap hb8 id
    replace K := K.trans (k20.any _)
    refine WL.store (v := GRow.val r12) (i := 0) (cs' := (Value.cells (GRow.val r12))) hb19 (k := fun w23 hb24 k25 => ?_)
    replace hb8 := k25.heap hb8 n22
    replace K := K.trans' k25 (fun i hi e => absurd (e ▸ hi) (Nat.not_lt.2 z21))
    clear hb19
    refine WL.nil ?_
    refine WX.seqN ?_
    refine WC.seq ?_
    refine WC.region ?_
    refine WL.op (d := 18) (.pointer (some ⟨b16, 0, none⟩)) (k := ?_)
    refine WL.load (v := GTask.val r12.task) (ldN (T := 44) (i := 0) (m := 5) (l := (Value.cells (GTask.val r12.task)).toList) hb24) (k := ?_)
    refine WL.callG (d := 20) (f := 83) (args := #[GTask.val r12.task]) (u09Check_c r12.task w23) (k := fun e_ w26 h_ => ⟨.bool (decide (GTask.ok r12.task)), h_.1, ?_⟩)
    have k27 := h_.2; clear h_
    replace hb8 := k27.heap hb8 id
    replace hb24 := k27.heap hb24 id
    replace K := K.trans (k27.any _)
    refine WL.op (d := 5) (.bool (decide (GTask.ok r12.task))) (k := ?_)
    refine WL.nil ?_
    refine WX.seqN ?_
    refine WC.seq ?_
    refine WC.quiet (k := ?_)
    refine WQ.op (d := 21) (.bool (decide (GTask.ok r12.task))) (k := ?_)
    refine WQ.op (d := 22) (.bool (!(decide (GTask.ok r12.task)))) (k := ?_)
    refine WQ.op (d := 23) (.bool (!(decide (GTask.ok r12.task)))) (k := ?_)
    refine bsplit (!(decide (GTask.ok r12.task))) (fun h28 => ?_) (fun h28 => ?_)
    · have h29 : (decide (GTask.ok r12.task)) = false := by simpa using h28
      have ph29 := of_decide_eq_false h29
      refine WQ.rw (t := 23) (v := .bool true) (congrArg Value.bool h28) (k := ?_)
      refine WQ.skip (d := 24) (k := ?_)
      refine WQ.skip (d := 25) (k := ?_)
      refine WQ.skip (d := 26) (k := ?_)
      refine WQ.skip (d := 27) (k := ?_)
      refine WQ.skip (d := 28) (k := ?_)
      refine WQ.skip (d := 29) (k := ?_)
      refine WQ.skip (d := 30) (k := ?_)
      refine WQ.skip (d := 31) (k := ?_)
      refine WQ.skip (d := 32) (k := ?_)
      refine WQ.skip (d := 33) (k := ?_)
      refine WQ.skip (d := 34) (k := ?_)
      refine WQ.op (d := 35) (.bool true) (k := ?_)
      refine WQ.op (d := 36) (.bool true) (k := ?_)
      refine WQ.skip (d := 37) (k := ?_)
      refine WQ.skip (d := 38) (k := ?_)
      refine WQ.skip (d := 39) (k := ?_)
      refine WQ.skip (d := 40) (k := ?_)
      refine WQ.skip (d := 41) (k := ?_)
      refine WQ.skip (d := 42) (k := ?_)
      refine WQ.skip (d := 43) (k := ?_)
      refine WQ.skip (d := 44) (k := ?_)
      refine WQ.skip (d := 45) (k := ?_)
      refine WQ.skip (d := 46) (k := ?_)
      refine WQ.skip (d := 47) (k := ?_)
      refine WQ.skip (d := 48) (k := ?_)
      refine WQ.skip (d := 49) (k := ?_)
      refine WQ.skip (d := 50) (k := ?_)
      refine WQ.skip (d := 51) (k := ?_)
      refine WQ.skip (d := 52) (k := ?_)
      refine WQ.op (d := 53) (.bool true) (k := ?_)
      refine WQ.nilX (fun w30 k31 => ?_)
      replace hb8 := k31.heap hb8 id
      replace hb24 := k31.heap hb24 id
      replace K := K.trans (k31.any _)
      refine WX.seqN ?_
      refine WC.condT (k := ?_)
      refine WC.seq ?_
      refine WC.region ?_
      refine WL.op (d := 2) (.bool false) (k := ?_)
      refine WL.nil ?_
      refine WX.seqN ?_
      refine WC.ret ?_
      refine WX.blockR ?_
      refine WX.seqR ?_
      refine WX.seqR ?_
      refine WX.blockR ?_
      refine WX.seqR ?_
      refine WX.ret (rs := [.tmp 2]) [.bool false] (.bool false) ⟨(by kernel_rfl), trivial⟩ (k := ?_)
      exact ⟨ret_bool (upTo_bad1 (t := ⟨rows, md⟩) hr13 (fun h => ph29 h.1)), K⟩
    · have h32 : (decide (GTask.ok r12.task)) = true := by simpa using h28
      have ph32 := of_decide_eq_true h32
      refine WQ.rw (t := 23) (v := .bool false) (congrArg Value.bool h28) (k := ?_)
      refine WQ.op (d := 24) (.pointer (some ⟨b16, 5, none⟩)) (k := ?_)
      refine WQ.load (v := .bool r12.sv) (fun w_ k_ => ld1 (T := 4) (i := 5) (k_.heap hb24 id)) (k := ?_)
      refine WQ.op (d := 26) (.bool r12.sv) (k := ?_)
      refine bsplit r12.sv (fun h33 => ?_) (fun h33 => ?_)
      · refine WQ.rw (t := 26) (v := .bool true) (congrArg Value.bool h33) (k := ?_)
        refine WQ.op (d := 27) (.pointer (some ⟨b16, 0, none⟩)) (k := ?_)
        refine WQ.op (d := 28) (.pointer (some ⟨b16, 2, none⟩)) (k := ?_)
        refine WQ.load (v := .int .i64 r12.task.d) (fun w_ k_ => ld1 (T := 2) (i := 2) (k_.heap hb24 id)) (k := ?_)
        refine WQ.op (d := 30) (.pointer (some ⟨b16, 0, none⟩)) (k := ?_)
        refine WQ.op (d := 31) (.pointer (some ⟨b16, 3, none⟩)) (k := ?_)
        refine WQ.load (v := .int .i64 r12.task.t) (fun w_ k_ => ld1 (T := 2) (i := 3) (k_.heap hb24 id)) (k := ?_)
        refine WQ.op (d := 33) (.bool (r12.task.d != r12.task.t)) (k := ?_)
        refine WQ.op (d := 34) (.bool (r12.task.d != r12.task.t)) (k := ?_)
        refine WQ.op (d := 35) (.bool (r12.task.d != r12.task.t)) (k := ?_)
        refine WQ.op (d := 36) (.bool (r12.task.d != r12.task.t)) (k := ?_)
        refine bsplit (r12.task.d != r12.task.t) (fun h34 => ?_) (fun h34 => ?_)
        · have ph34 := bne_iff_ne.1 h34
          refine WQ.rw (t := 36) (v := .bool true) (congrArg Value.bool h34) (k := ?_)
          refine WQ.skip (d := 37) (k := ?_)
          refine WQ.skip (d := 38) (k := ?_)
          refine WQ.skip (d := 39) (k := ?_)
          refine WQ.skip (d := 40) (k := ?_)
          refine WQ.skip (d := 41) (k := ?_)
          refine WQ.skip (d := 42) (k := ?_)
          refine WQ.skip (d := 43) (k := ?_)
          refine WQ.skip (d := 44) (k := ?_)
          refine WQ.skip (d := 45) (k := ?_)
          refine WQ.skip (d := 46) (k := ?_)
          refine WQ.skip (d := 47) (k := ?_)
          refine WQ.skip (d := 48) (k := ?_)
          refine WQ.skip (d := 49) (k := ?_)
          refine WQ.skip (d := 50) (k := ?_)
          refine WQ.skip (d := 51) (k := ?_)
          refine WQ.skip (d := 52) (k := ?_)
          refine WQ.op (d := 53) (.bool true) (k := ?_)
          refine WQ.nilX (fun w35 k36 => ?_)
          replace hb8 := k36.heap hb8 id
          replace hb24 := k36.heap hb24 id
          replace K := K.trans (k36.any _)
          refine WX.seqN ?_
          refine WC.condT (k := ?_)
          refine WC.seq ?_
          refine WC.region ?_
          refine WL.op (d := 2) (.bool false) (k := ?_)
          refine WL.nil ?_
          refine WX.seqN ?_
          refine WC.ret ?_
          refine WX.blockR ?_
          refine WX.seqR ?_
          refine WX.seqR ?_
          refine WX.blockR ?_
          refine WX.seqR ?_
          refine WX.ret (rs := [.tmp 2]) [.bool false] (.bool false) ⟨(by kernel_rfl), trivial⟩ (k := ?_)
          exact ⟨ret_bool (upTo_bad1 (t := ⟨rows, md⟩) hr13 (fun h => ph34 (h.2 h33))), K⟩
        · have ph34 := of_bne_false h34
          refine WQ.rw (t := 36) (v := .bool false) (congrArg Value.bool h34) (k := ?_)
          refine WQ.op (d := 37) (.int .i64 i) (k := ?_)
          refine WQ.op (d := 38) (.bool (decide (i > 0))) (k := ?_)
          refine WQ.op (d := 39) (.bool (decide (i > 0))) (k := ?_)
          refine bsplit (decide (i > 0)) (fun h37 => ?_) (fun h37 => ?_)
          · have ph37 := of_decide_eq_true h37
            refine WQ.rw (t := 39) (v := .bool true) (congrArg Value.bool h37) (k := ?_)
            refine WQ.op (d := 40) (.pointer (some ⟨b1, 0, none⟩)) (k := ?_)
            refine WQ.load (v := .slice A rows.length cp) (fun w_ k_ => ld1 (T := 22) (i := 0) (k_.heap hb8 id)) (k := ?_)
            refine WQ.op (d := 42) (.int .i64 i) (k := ?_)
            refine WQ.opE (d := 43) (.int .i64 (IntKind.i64.wrap (i - 1))) (v := .int .i64 (i - 1)) (congrArg (Value.int .i64) (IntWalk.i64_in _ (by omega))) (k := ?_)
            obtain ⟨b38, o39, r40, hr41, hA42, he43⟩ := SlAt.at hA (i := i - 1) (by omega) (by omega)
            refine WQ.rw (t := 41) (v := .slice (some ⟨b38, o39, none⟩) rows.length cp) (congrArg (fun a => Value.slice a rows.length cp) hA42) (k := ?_)
            refine WQ.idx (T := 22) (E := 53) (m := 6) (b := b38) (o := o39) (len := rows.length) (cap := cp) (i := i - 1) (kk := .i64) (d := 44) (by omega) (by omega) (k := ?_)
            refine WQ.rw (t := 41) (v := .slice A rows.length cp) (congrArg (fun a => Value.slice a rows.length cp) (Eq.symm hA42)) (k := ?_)
            refine WQ.op (d := 45) (.pointer (some ⟨b38, o39 + (i - 1).toNat * 6, none⟩)) (k := ?_)
            refine WQ.op (d := 46) (.pointer (some ⟨b38, o39 + (i - 1).toNat * 6, none⟩)) (k := ?_)
            refine WQ.load (v := .int .i64 r40.task.id) (fun w_ k_ => ((he43.adds K).adds k_).ld0 (T := 3)) (k := ?_)
            refine WQ.op (d := 48) (.pointer (some ⟨b16, 0, none⟩)) (k := ?_)
            refine WQ.op (d := 49) (.pointer (some ⟨b16, 0, none⟩)) (k := ?_)
            refine WQ.load (v := .int .i64 r12.task.id) (fun w_ k_ => ld1 (T := 3) (i := 0) (k_.heap hb24 id)) (k := ?_)
            refine WQ.op (d := 51) (.bool (decide (r40.task.id ≥ r12.task.id))) (k := ?_)
            refine WQ.op (d := 52) (.bool (decide (r40.task.id ≥ r12.task.id))) (k := ?_)
            refine WQ.op (d := 53) (.bool (decide (r40.task.id ≥ r12.task.id))) (k := ?_)
            refine WQ.nilX (fun w44 k45 => ?_)
            replace hb8 := k45.heap hb8 id
            replace hb24 := k45.heap hb24 id
            replace K := K.trans (k45.any _)
            refine WX.seqN ?_
            refine WC.cond (b := decide (r40.task.id ≥ r12.task.id)) (ht := fun h46 => ?_) (hf := fun h46 => ?_)
            · have ph46 := of_decide_eq_true h46
              refine WC.seq ?_
              refine WC.region ?_
              refine WL.op (d := 2) (.bool false) (k := ?_)
              refine WL.nil ?_
              refine WX.seqN ?_
              refine WC.ret ?_
              refine WX.blockR ?_
              refine WX.seqR ?_
              refine WX.seqR ?_
              refine WX.blockR ?_
              refine WX.seqR ?_
              refine WX.ret (rs := [.tmp 2]) [.bool false] (.bool false) ⟨(by kernel_rfl), trivial⟩ (k := ?_)
              exact ⟨ret_bool (upTo_bad2 (t := ⟨rows, md⟩) hr13 (by omega) hr41 (by omega)), K⟩
            · have ph46 := of_decide_eq_false h46
              refine WC.skip ?_
              refine WX.blockN ?_
              refine WX.seqN ?_
              refine WC.region ?_
              refine WL.op (d := 11) (.int .i64 i) (k := ?_)
              refine WL.opE (d := 12) (.int .i64 (IntKind.i64.wrap (i + 1))) (v := .int .i64 (i + 1)) (congrArg (Value.int .i64) (IntWalk.i64_in _ (by omega))) (k := ?_)
              refine WL.op (d := 3) (.int .i64 (i + 1)) (k := ?_)
              refine WL.nil ?_
              refine WX.round (i + 1) (by show (rows.length - (i + 1)).toNat < (rows.length - i).toNat; omega) ⟨(by kernel_rfl), (by kernel_rfl), (by kernel_rfl), trivial⟩ ⟨K, hb8, (by omega), (by omega), (upTo_succ i0 iu hr13 ⟨ph32, (fun _ => ph34)⟩ (fun q _ hq => by rw [hr41] at hq; cases hq; omega))⟩
          · have ph37 := of_decide_eq_false h37
            refine WQ.rw (t := 39) (v := .bool false) (congrArg Value.bool h37) (k := ?_)
            refine WQ.skip (d := 40) (k := ?_)
            refine WQ.skip (d := 41) (k := ?_)
            refine WQ.skip (d := 42) (k := ?_)
            refine WQ.skip (d := 43) (k := ?_)
            refine WQ.skip (d := 44) (k := ?_)
            refine WQ.skip (d := 45) (k := ?_)
            refine WQ.skip (d := 46) (k := ?_)
            refine WQ.skip (d := 47) (k := ?_)
            refine WQ.skip (d := 48) (k := ?_)
            refine WQ.skip (d := 49) (k := ?_)
            refine WQ.skip (d := 50) (k := ?_)
            refine WQ.skip (d := 51) (k := ?_)
            refine WQ.op (d := 52) (.bool false) (k := ?_)
            refine WQ.op (d := 53) (.bool false) (k := ?_)
            refine WQ.nilX (fun w47 k48 => ?_)
            replace hb8 := k48.heap hb8 id
            replace hb24 := k48.heap hb24 id
            replace K := K.trans (k48.any _)
            refine WX.seqN ?_
            refine WC.condF (k := ?_)
            refine WC.skip ?_
            refine WX.blockN ?_
            refine WX.seqN ?_
            refine WC.region ?_
            refine WL.op (d := 11) (.int .i64 i) (k := ?_)
            refine WL.opE (d := 12) (.int .i64 (IntKind.i64.wrap (i + 1))) (v := .int .i64 (i + 1)) (congrArg (Value.int .i64) (IntWalk.i64_in _ (by omega))) (k := ?_)
            refine WL.op (d := 3) (.int .i64 (i + 1)) (k := ?_)
            refine WL.nil ?_
            refine WX.round (i + 1) (by show (rows.length - (i + 1)).toNat < (rows.length - i).toNat; omega) ⟨(by kernel_rfl), (by kernel_rfl), (by kernel_rfl), trivial⟩ ⟨K, hb8, (by omega), (by omega), (upTo_succ i0 iu hr13 ⟨ph32, (fun _ => ph34)⟩ (fun q h0 _ => by omega))⟩
      · refine WQ.rw (t := 26) (v := .bool false) (congrArg Value.bool h33) (k := ?_)
        refine WQ.skip (d := 27) (k := ?_)
        refine WQ.skip (d := 28) (k := ?_)
        refine WQ.skip (d := 29) (k := ?_)
        refine WQ.skip (d := 30) (k := ?_)
        refine WQ.skip (d := 31) (k := ?_)
        refine WQ.skip (d := 32) (k := ?_)
        refine WQ.skip (d := 33) (k := ?_)
        refine WQ.op (d := 34) (.bool false) (k := ?_)
        refine WQ.op (d := 35) (.bool false) (k := ?_)
        refine WQ.op (d := 36) (.bool false) (k := ?_)
        refine WQ.op (d := 37) (.int .i64 i) (k := ?_)
        refine WQ.op (d := 38) (.bool (decide (i > 0))) (k := ?_)
        refine WQ.op (d := 39) (.bool (decide (i > 0))) (k := ?_)
        refine bsplit (decide (i > 0)) (fun h49 => ?_) (fun h49 => ?_)
        · have ph49 := of_decide_eq_true h49
          refine WQ.rw (t := 39) (v := .bool true) (congrArg Value.bool h49) (k := ?_)
          refine WQ.op (d := 40) (.pointer (some ⟨b1, 0, none⟩)) (k := ?_)
          refine WQ.load (v := .slice A rows.length cp) (fun w_ k_ => ld1 (T := 22) (i := 0) (k_.heap hb8 id)) (k := ?_)
          refine WQ.op (d := 42) (.int .i64 i) (k := ?_)
          refine WQ.opE (d := 43) (.int .i64 (IntKind.i64.wrap (i - 1))) (v := .int .i64 (i - 1)) (congrArg (Value.int .i64) (IntWalk.i64_in _ (by omega))) (k := ?_)
          obtain ⟨b50, o51, r52, hr53, hA54, he55⟩ := SlAt.at hA (i := i - 1) (by omega) (by omega)
          refine WQ.rw (t := 41) (v := .slice (some ⟨b50, o51, none⟩) rows.length cp) (congrArg (fun a => Value.slice a rows.length cp) hA54) (k := ?_)
          refine WQ.idx (T := 22) (E := 53) (m := 6) (b := b50) (o := o51) (len := rows.length) (cap := cp) (i := i - 1) (kk := .i64) (d := 44) (by omega) (by omega) (k := ?_)
          refine WQ.rw (t := 41) (v := .slice A rows.length cp) (congrArg (fun a => Value.slice a rows.length cp) (Eq.symm hA54)) (k := ?_)
          refine WQ.op (d := 45) (.pointer (some ⟨b50, o51 + (i - 1).toNat * 6, none⟩)) (k := ?_)
          refine WQ.op (d := 46) (.pointer (some ⟨b50, o51 + (i - 1).toNat * 6, none⟩)) (k := ?_)
          refine WQ.load (v := .int .i64 r52.task.id) (fun w_ k_ => ((he55.adds K).adds k_).ld0 (T := 3)) (k := ?_)
          refine WQ.op (d := 48) (.pointer (some ⟨b16, 0, none⟩)) (k := ?_)
          refine WQ.op (d := 49) (.pointer (some ⟨b16, 0, none⟩)) (k := ?_)
          refine WQ.load (v := .int .i64 r12.task.id) (fun w_ k_ => ld1 (T := 3) (i := 0) (k_.heap hb24 id)) (k := ?_)
          refine WQ.op (d := 51) (.bool (decide (r52.task.id ≥ r12.task.id))) (k := ?_)
          refine WQ.op (d := 52) (.bool (decide (r52.task.id ≥ r12.task.id))) (k := ?_)
          refine WQ.op (d := 53) (.bool (decide (r52.task.id ≥ r12.task.id))) (k := ?_)
          refine WQ.nilX (fun w56 k57 => ?_)
          replace hb8 := k57.heap hb8 id
          replace hb24 := k57.heap hb24 id
          replace K := K.trans (k57.any _)
          refine WX.seqN ?_
          refine WC.cond (b := decide (r52.task.id ≥ r12.task.id)) (ht := fun h58 => ?_) (hf := fun h58 => ?_)
          · have ph58 := of_decide_eq_true h58
            refine WC.seq ?_
            refine WC.region ?_
            refine WL.op (d := 2) (.bool false) (k := ?_)
            refine WL.nil ?_
            refine WX.seqN ?_
            refine WC.ret ?_
            refine WX.blockR ?_
            refine WX.seqR ?_
            refine WX.seqR ?_
            refine WX.blockR ?_
            refine WX.seqR ?_
            refine WX.ret (rs := [.tmp 2]) [.bool false] (.bool false) ⟨(by kernel_rfl), trivial⟩ (k := ?_)
            exact ⟨ret_bool (upTo_bad2 (t := ⟨rows, md⟩) hr13 (by omega) hr53 (by omega)), K⟩
          · have ph58 := of_decide_eq_false h58
            refine WC.skip ?_
            refine WX.blockN ?_
            refine WX.seqN ?_
            refine WC.region ?_
            refine WL.op (d := 11) (.int .i64 i) (k := ?_)
            refine WL.opE (d := 12) (.int .i64 (IntKind.i64.wrap (i + 1))) (v := .int .i64 (i + 1)) (congrArg (Value.int .i64) (IntWalk.i64_in _ (by omega))) (k := ?_)
            refine WL.op (d := 3) (.int .i64 (i + 1)) (k := ?_)
            refine WL.nil ?_
            refine WX.round (i + 1) (by show (rows.length - (i + 1)).toNat < (rows.length - i).toNat; omega) ⟨(by kernel_rfl), (by kernel_rfl), (by kernel_rfl), trivial⟩ ⟨K, hb8, (by omega), (by omega), (upTo_succ i0 iu hr13 ⟨ph32, (fun e => absurd e (by simp [h33]))⟩ (fun q _ hq => by rw [hr53] at hq; cases hq; omega))⟩
        · have ph49 := of_decide_eq_false h49
          refine WQ.rw (t := 39) (v := .bool false) (congrArg Value.bool h49) (k := ?_)
          refine WQ.skip (d := 40) (k := ?_)
          refine WQ.skip (d := 41) (k := ?_)
          refine WQ.skip (d := 42) (k := ?_)
          refine WQ.skip (d := 43) (k := ?_)
          refine WQ.skip (d := 44) (k := ?_)
          refine WQ.skip (d := 45) (k := ?_)
          refine WQ.skip (d := 46) (k := ?_)
          refine WQ.skip (d := 47) (k := ?_)
          refine WQ.skip (d := 48) (k := ?_)
          refine WQ.skip (d := 49) (k := ?_)
          refine WQ.skip (d := 50) (k := ?_)
          refine WQ.skip (d := 51) (k := ?_)
          refine WQ.op (d := 52) (.bool false) (k := ?_)
          refine WQ.op (d := 53) (.bool false) (k := ?_)
          refine WQ.nilX (fun w59 k60 => ?_)
          replace hb8 := k60.heap hb8 id
          replace hb24 := k60.heap hb24 id
          replace K := K.trans (k60.any _)
          refine WX.seqN ?_
          refine WC.condF (k := ?_)
          refine WC.skip ?_
          refine WX.blockN ?_
          refine WX.seqN ?_
          refine WC.region ?_
          refine WL.op (d := 11) (.int .i64 i) (k := ?_)
          refine WL.opE (d := 12) (.int .i64 (IntKind.i64.wrap (i + 1))) (v := .int .i64 (i + 1)) (congrArg (Value.int .i64) (IntWalk.i64_in _ (by omega))) (k := ?_)
          refine WL.op (d := 3) (.int .i64 (i + 1)) (k := ?_)
          refine WL.nil ?_
          refine WX.round (i + 1) (by show (rows.length - (i + 1)).toNat < (rows.length - i).toNat; omega) ⟨(by kernel_rfl), (by kernel_rfl), (by kernel_rfl), trivial⟩ ⟨K, hb8, (by omega), (by omega), (upTo_succ i0 iu hr13 ⟨ph32, (fun e => absurd e (by simp [h33]))⟩ (fun q h0 _ => by omega))⟩
  · have ph9 := of_decide_eq_false h9
    refine WC.exit ?_
    refine WX.seqE ?_
    refine WX.seqE ?_
    refine WX.blockE ?_
    refine WX.seqN ?_
    refine WC.seq ?_
    refine WC.region ?_
    refine WL.op (d := 54) (.pointer (some ⟨b1, 0, none⟩)) (k := ?_)
    refine WL.load (v := .slice A rows.length cp) (ld1 (T := 22) (i := 0) hb8) (k := ?_)
    refine WL.op (d := 56) (.int .i64 (rows.length : Int)) (k := ?_)
    refine WL.op (d := 57) (.bool (decide ((rows.length : Int) ≤ 16))) (k := ?_)
    refine WL.op (d := 58) (.bool (decide ((rows.length : Int) ≤ 16))) (k := ?_)
    refine bsplit (decide ((rows.length : Int) ≤ 16)) (fun h61 => ?_) (fun h61 => ?_)
    · have ph61 := of_decide_eq_true h61
      refine WL.rw (t := 58) (v := .bool true) (congrArg Value.bool h61) (k := ?_)
      refine WL.op (d := 59) (.pointer (some ⟨b1, 1, none⟩)) (k := ?_)
      refine WL.load (v := .int .i64 md) (ld1 (T := 3) (i := 1) hb8) (k := ?_)
      refine WL.op (d := 61) (.bool (decide (md ≥ 0))) (k := ?_)
      refine WL.op (d := 62) (.bool (decide (md ≥ 0))) (k := ?_)
      refine WL.op (d := 63) (.bool (decide (md ≥ 0))) (k := ?_)
      refine bsplit (decide (md ≥ 0)) (fun h62 => ?_) (fun h62 => ?_)
      · have ph62 := of_decide_eq_true h62
        refine WL.rw (t := 63) (v := .bool true) (congrArg Value.bool h62) (k := ?_)
        refine WL.op (d := 64) (.pointer (some ⟨b1, 1, none⟩)) (k := ?_)
        refine WL.load (v := .int .i64 md) (ld1 (T := 3) (i := 1) hb8) (k := ?_)
        refine WL.op (d := 66) (.bool (decide (md ≤ 3))) (k := ?_)
        refine WL.op (d := 67) (.bool (decide (md ≤ 3))) (k := ?_)
        refine WL.op (d := 2) (.bool (decide (md ≤ 3))) (k := ?_)
        refine WL.nil ?_
        refine WX.seqN ?_
        refine WC.ret ?_
        refine WX.ret (rs := [.tmp 2]) [.bool (decide (md ≤ 3))] (.bool (decide (md ≤ 3))) ⟨(by kernel_rfl), trivial⟩ (k := ?_)
        exact ⟨ret_bool (tok_end (i := i) (by omega) iu ⟨fun h => by have := of_decide_eq_true h; omega, fun h => decide_eq_true (by omega)⟩), K⟩
      · have ph62 := of_decide_eq_false h62
        refine WL.rw (t := 63) (v := .bool false) (congrArg Value.bool h62) (k := ?_)
        refine WL.skip (d := 64) (k := ?_)
        refine WL.skip (d := 65) (k := ?_)
        refine WL.skip (d := 66) (k := ?_)
        refine WL.op (d := 67) (.bool false) (k := ?_)
        refine WL.op (d := 2) (.bool false) (k := ?_)
        refine WL.nil ?_
        refine WX.seqN ?_
        refine WC.ret ?_
        refine WX.ret (rs := [.tmp 2]) [.bool false] (.bool false) ⟨(by kernel_rfl), trivial⟩ (k := ?_)
        exact ⟨ret_bool (tok_end (i := i) (by omega) iu ⟨fun h => absurd h (by decide), fun h => absurd h (by omega)⟩), K⟩
    · have ph61 := of_decide_eq_false h61
      refine WL.rw (t := 58) (v := .bool false) (congrArg Value.bool h61) (k := ?_)
      refine WL.skip (d := 59) (k := ?_)
      refine WL.skip (d := 60) (k := ?_)
      refine WL.skip (d := 61) (k := ?_)
      refine WL.op (d := 62) (.bool false) (k := ?_)
      refine WL.op (d := 63) (.bool false) (k := ?_)
      refine WL.skip (d := 64) (k := ?_)
      refine WL.skip (d := 65) (k := ?_)
      refine WL.skip (d := 66) (k := ?_)
      refine WL.op (d := 67) (.bool false) (k := ?_)
      refine WL.op (d := 2) (.bool false) (k := ?_)
      refine WL.nil ?_
      refine WX.seqN ?_
      refine WC.ret ?_
      refine WX.ret (rs := [.tmp 2]) [.bool false] (.bool false) ⟨(by kernel_rfl), trivial⟩ (k := ?_)
      exact ⟨ret_bool (tok_end (i := i) (by omega) iu ⟨fun h => absurd h (by decide), fun h => absurd h (by omega)⟩), K⟩

set_option maxRecDepth 100000 in
theorem sEqual_c {A B : Option Addr} {cp cq : Nat} {xs ys : List GRow} {w : World} (hA : SlAt rowC 6 53 A xs w) (hB : SlAt rowC 6 53 B ys w) (hn : xs.length ≤ 1000000000) (hm : ys.length ≤ 1000000000) : Calls Try.prog 56 #[.slice A xs.length cp, .slice B ys.length cq] w fun e w' => e = .returned (.bool (decide (xs = ys))) ∧ Adds w w' := by
  have K : Keeps (fun _ => False) w w := Keeps.refl _ w
  refine Calls.start Try.func56 rfl (by kernel_rfl) ?_
  refine WC.seq ?_
  refine WC.region ?_
  refine WL.op (d := 4) (.bool false) (k := ?_)
  refine WL.nil ?_
  refine WX.seqN ?_
  refine WC.seq ?_
  refine WC.seq ?_
  refine WC.region ?_
  refine WL.op (d := 6) (.slice A xs.length cp) (k := ?_)
  refine WL.op (d := 7) (.int .i64 (xs.length : Int)) (k := ?_)
  refine WL.op (d := 8) (.slice B ys.length cq) (k := ?_)
  refine WL.op (d := 9) (.int .i64 (ys.length : Int)) (k := ?_)
  refine WL.op (d := 10) (.bool ((xs.length : Int) != (ys.length : Int))) (k := ?_)
  refine WL.nil ?_
  refine WX.seqN ?_
  refine WC.cond (b := (xs.length : Int) != (ys.length : Int)) (ht := fun h1 => ?_) (hf := fun h1 => ?_)
  · have ph1 := bne_iff_ne.1 h1
    refine WC.seq ?_
    refine WC.region ?_
    refine WL.op (d := 4) (.bool false) (k := ?_)
    refine WL.nil ?_
    refine WX.seqN ?_
    refine WC.ret ?_
    refine WX.seqR ?_
    refine WX.ret (rs := [.tmp 4]) [.bool false] (.bool false) ⟨(by kernel_rfl), trivial⟩ (k := ?_)
    exact ⟨ret_bool (eqU_len (by omega)), K⟩
  · have ph1 := of_bne_false h1
    refine WC.skip ?_
    refine WX.seqN ?_
    refine WC.seq ?_
    refine WC.seq ?_
    refine WC.region ?_
    refine WL.op (d := 11) (.slice A xs.length cp) (k := ?_)
    refine WL.op (d := 12) (.int .i64 (xs.length : Int)) (k := ?_)
    refine WL.op (d := 13) (.int .i64 0) (k := ?_)
    refine WL.nil ?_
    refine WX.seqN ?_
    refine WC.block ?_
    refine WC.loop (ι := Int) (fun (i : Int) => [(0, .slice A xs.length cp), (1, .slice B ys.length cq), (6, .slice A xs.length cp), (7, .int .i64 (xs.length : Int)), (8, .slice B ys.length cq), (9, .int .i64 (ys.length : Int)), (10, .bool ((xs.length : Int) != (ys.length : Int))), (11, .slice A xs.length cp), (12, .int .i64 (xs.length : Int)), (13, .int .i64 i)]) (fun (i : Int) (w_ : World) => (Keeps (fun _ => False) w w_) ∧ (0 ≤ i) ∧ (i ≤ xs.length) ∧ (eqU xs ys i)) (fun (i : Int) => (xs.length - i).toNat) 0 ⟨(by kernel_rfl), (by kernel_rfl), (by kernel_rfl), (by kernel_rfl), (by kernel_rfl), (by kernel_rfl), (by kernel_rfl), (by kernel_rfl), (by kernel_rfl), (by kernel_rfl), trivial⟩ ⟨K, Int.le_refl 0, (by omega), eqU_zero _ _⟩ ?_
    rintro i w2 ⟨K, i0, i1, iu⟩
    refine WC.seq ?_
    refine WC.region ?_
    refine WL.op (d := 14) (.bool (decide (i < (xs.length : Int)))) (k := ?_)
    refine WL.nil ?_
    refine WX.seqN ?_
    refine WC.seq ?_
    refine WC.cond (b := decide (i < (xs.length : Int))) (ht := fun h3 => ?_) (hf := fun h3 => ?_)
    · have ph3 := of_decide_eq_true h3
      refine WC.skip ?_
      refine WX.seqN ?_
      refine WC.seq ?_
      refine WC.block ?_
      refine WC.seq ?_
      refine WC.region ?_
      refine WL.op (d := 15) (.int .i64 i) (k := ?_)
      refine WL.op (d := 5) (.int .i64 i) (k := ?_)
      refine WL.nil ?_
      refine WX.seqN ?_
      refine WC.seq ?_
      refine WC.quiet (k := ?_)
      refine WQ.op (d := 16) (.slice A xs.length cp) (k := ?_)
      refine WQ.op (d := 17) (.int .i64 i) (k := ?_)
      obtain ⟨b4, o5, r6, hr7, hA8, he9⟩ := SlAt.at hA (i := i) (by omega) (by omega)
      refine WQ.rw (t := 16) (v := .slice (some ⟨b4, o5, none⟩) xs.length cp) (congrArg (fun a => Value.slice a xs.length cp) hA8) (k := ?_)
      refine WQ.idx (T := 22) (E := 53) (m := 6) (b := b4) (o := o5) (len := xs.length) (cap := cp) (i := i) (kk := .i64) (d := 18) (by omega) (by omega) (k := ?_)
      refine WQ.rw (t := 16) (v := .slice A xs.length cp) (congrArg (fun a => Value.slice a xs.length cp) (Eq.symm hA8)) (k := ?_)
      refine WQ.load (v := GRow.val r6) (fun w_ k_ => ((he9.adds K).adds k_).ldW (T := 53)) (k := ?_)
      refine WQ.op (d := 20) (.slice B ys.length cq) (k := ?_)
      refine WQ.op (d := 21) (.int .i64 i) (k := ?_)
      obtain ⟨b10, o11, r12, hr13, hA14, he15⟩ := SlAt.at hB (i := i) (by omega) (by omega)
      refine WQ.rw (t := 20) (v := .slice (some ⟨b10, o11, none⟩) ys.length cq) (congrArg (fun a => Value.slice a ys.length cq) hA14) (k := ?_)
      refine WQ.idx (T := 22) (E := 53) (m := 6) (b := b10) (o := o11) (len := ys.length) (cap := cq) (i := i) (kk := .i64) (d := 22) (by omega) (by omega) (k := ?_)
      refine WQ.rw (t := 20) (v := .slice B ys.length cq) (congrArg (fun a => Value.slice a ys.length cq) (Eq.symm hA14)) (k := ?_)
      refine WQ.load (v := GRow.val r12) (fun w_ k_ => ((he15.adds K).adds k_).ldW (T := 53)) (k := ?_)
      refine WQ.bin (d := 24) (v := .bool (!(decide (r6 = r12)))) (fun w_ => neqRowV r6 r12 w_) (k := ?_)
      refine WQ.nilX (fun w16 k17 => ?_)
      replace K := K.trans (k17.any _)
      refine WX.seqN ?_
      refine WC.cond (b := !(decide (r6 = r12))) (ht := fun h18 => ?_) (hf := fun h18 => ?_)
      · have h19 : (decide (r6 = r12)) = false := by simpa using h18
        have ph19 := of_decide_eq_false h19
        refine WC.seq ?_
        refine WC.region ?_
        refine WL.op (d := 4) (.bool false) (k := ?_)
        refine WL.nil ?_
        refine WX.seqN ?_
        refine WC.ret ?_
        refine WX.blockR ?_
        refine WX.seqR ?_
        refine WX.seqR ?_
        refine WX.blockR ?_
        refine WX.seqR ?_
        refine WX.ret (rs := [.tmp 4]) [.bool false] (.bool false) ⟨(by kernel_rfl), trivial⟩ (k := ?_)
        exact ⟨ret_bool (eqU_bad hr7 hr13 ph19), K⟩
      · have h20 : (decide (r6 = r12)) = true := by simpa using h18
        have ph20 := of_decide_eq_true h20
        refine WC.skip ?_
        refine WX.blockN ?_
        refine WX.seqN ?_
        refine WC.region ?_
        refine WL.opE (d := 25) (.int .i64 (IntKind.i64.wrap (i + 1))) (v := .int .i64 (i + 1)) (congrArg (Value.int .i64) (IntWalk.i64_in _ (by omega))) (k := ?_)
        refine WL.op (d := 13) (.int .i64 (i + 1)) (k := ?_)
        refine WL.nil ?_
        refine WX.round (i + 1) (by show (xs.length - (i + 1)).toNat < (xs.length - i).toNat; omega) ⟨(by kernel_rfl), (by kernel_rfl), (by kernel_rfl), (by kernel_rfl), (by kernel_rfl), (by kernel_rfl), (by kernel_rfl), (by kernel_rfl), (by kernel_rfl), (by kernel_rfl), trivial⟩ ⟨K, (by omega), (by omega), (eqU_succ i0 iu hr7 hr13 ph20)⟩
    · have ph3 := of_decide_eq_false h3
      refine WC.exit ?_
      refine WX.seqE ?_
      refine WX.seqE ?_
      refine WX.blockE ?_
      refine WX.seqN ?_
      refine WC.seq ?_
      refine WC.region ?_
      refine WL.op (d := 4) (.bool true) (k := ?_)
      refine WL.nil ?_
      refine WX.seqN ?_
      refine WC.ret ?_
      refine WX.ret (rs := [.tmp 4]) [.bool true] (.bool true) ⟨(by kernel_rfl), trivial⟩ (k := ?_)
      exact ⟨ret_bool (eqU_end (i := i) (by omega) (by omega) iu), K⟩

set_option maxRecDepth 100000 in
theorem u09Same_c {A B : Option Addr} {cp cq : Nat} {xs ys : List GTask} {w : World} (hA : SlAt taskC 5 44 A xs w) (hB : SlAt taskC 5 44 B ys w) (hn : xs.length ≤ 1000000000) (hm : ys.length ≤ 1000000000) : Calls Try.prog 50 #[.slice A xs.length cp, .slice B ys.length cq] w fun e w' => e = .returned (.bool (decide (xs = ys))) ∧ Adds w w' := by
  have K : Keeps (fun _ => False) w w := Keeps.refl _ w
  refine Calls.start Try.func50 rfl (by kernel_rfl) ?_
  refine WC.seq ?_
  refine WC.region ?_
  refine WL.op (d := 4) (.bool false) (k := ?_)
  refine WL.nil ?_
  refine WX.seqN ?_
  refine WC.seq ?_
  refine WC.seq ?_
  refine WC.region ?_
  refine WL.op (d := 6) (.slice A xs.length cp) (k := ?_)
  refine WL.op (d := 7) (.int .i64 (xs.length : Int)) (k := ?_)
  refine WL.op (d := 8) (.slice B ys.length cq) (k := ?_)
  refine WL.op (d := 9) (.int .i64 (ys.length : Int)) (k := ?_)
  refine WL.op (d := 10) (.bool ((xs.length : Int) != (ys.length : Int))) (k := ?_)
  refine WL.nil ?_
  refine WX.seqN ?_
  refine WC.cond (b := (xs.length : Int) != (ys.length : Int)) (ht := fun h1 => ?_) (hf := fun h1 => ?_)
  · have ph1 := bne_iff_ne.1 h1
    refine WC.seq ?_
    refine WC.region ?_
    refine WL.op (d := 4) (.bool false) (k := ?_)
    refine WL.nil ?_
    refine WX.seqN ?_
    refine WC.ret ?_
    refine WX.seqR ?_
    refine WX.ret (rs := [.tmp 4]) [.bool false] (.bool false) ⟨(by kernel_rfl), trivial⟩ (k := ?_)
    exact ⟨ret_bool (eqU_len (by omega)), K⟩
  · have ph1 := of_bne_false h1
    refine WC.skip ?_
    refine WX.seqN ?_
    refine WC.seq ?_
    refine WC.seq ?_
    refine WC.region ?_
    refine WL.op (d := 5) (.int .i64 0) (k := ?_)
    refine WL.nil ?_
    refine WX.seqN ?_
    refine WC.block ?_
    refine WC.loop (ι := Int) (fun (i : Int) => [(0, .slice A xs.length cp), (1, .slice B ys.length cq), (6, .slice A xs.length cp), (7, .int .i64 (xs.length : Int)), (8, .slice B ys.length cq), (9, .int .i64 (ys.length : Int)), (10, .bool ((xs.length : Int) != (ys.length : Int))), (5, .int .i64 i)]) (fun (i : Int) (w_ : World) => (Keeps (fun _ => False) w w_) ∧ (0 ≤ i) ∧ (i ≤ xs.length) ∧ (eqU xs ys i)) (fun (i : Int) => (xs.length - i).toNat) 0 ⟨(by kernel_rfl), (by kernel_rfl), (by kernel_rfl), (by kernel_rfl), (by kernel_rfl), (by kernel_rfl), (by kernel_rfl), (by kernel_rfl), trivial⟩ ⟨K, Int.le_refl 0, (by omega), eqU_zero _ _⟩ ?_
    rintro i w2 ⟨K, i0, i1, iu⟩
    refine WC.seq ?_
    refine WC.seq ?_
    refine WC.region ?_
    refine WL.op (d := 11) (.int .i64 i) (k := ?_)
    refine WL.op (d := 12) (.slice A xs.length cp) (k := ?_)
    refine WL.op (d := 13) (.int .i64 (xs.length : Int)) (k := ?_)
    refine WL.op (d := 14) (.bool (decide (i < (xs.length : Int)))) (k := ?_)
    refine WL.nil ?_
    refine WX.seqN ?_
    refine WC.cond (b := decide (i < (xs.length : Int))) (ht := fun h3 => ?_) (hf := fun h3 => ?_)
    · have ph3 := of_decide_eq_true h3
      refine WC.skip ?_
      refine WX.seqN ?_
      refine WC.seq ?_
      refine WC.block ?_
      refine WC.seq ?_
      refine WC.quiet (k := ?_)
      refine WQ.op (d := 17) (.slice A xs.length cp) (k := ?_)
      refine WQ.op (d := 18) (.int .i64 i) (k := ?_)
      obtain ⟨b4, o5, r6, hr7, hA8, he9⟩ := SlAt.at hA (i := i) (by omega) (by omega)
      refine WQ.rw (t := 17) (v := .slice (some ⟨b4, o5, none⟩) xs.length cp) (congrArg (fun a => Value.slice a xs.length cp) hA8) (k := ?_)
      refine WQ.idx (T := 50) (E := 44) (m := 5) (b := b4) (o := o5) (len := xs.length) (cap := cp) (i := i) (kk := .i64) (d := 19) (by omega) (by omega) (k := ?_)
      refine WQ.rw (t := 17) (v := .slice A xs.length cp) (congrArg (fun a => Value.slice a xs.length cp) (Eq.symm hA8)) (k := ?_)
      refine WQ.load (v := GTask.val r6) (fun w_ k_ => ((he9.adds K).adds k_).ldW (T := 44)) (k := ?_)
      refine WQ.op (d := 21) (.slice B ys.length cq) (k := ?_)
      refine WQ.op (d := 22) (.int .i64 i) (k := ?_)
      obtain ⟨b10, o11, r12, hr13, hA14, he15⟩ := SlAt.at hB (i := i) (by omega) (by omega)
      refine WQ.rw (t := 21) (v := .slice (some ⟨b10, o11, none⟩) ys.length cq) (congrArg (fun a => Value.slice a ys.length cq) hA14) (k := ?_)
      refine WQ.idx (T := 50) (E := 44) (m := 5) (b := b10) (o := o11) (len := ys.length) (cap := cq) (i := i) (kk := .i64) (d := 23) (by omega) (by omega) (k := ?_)
      refine WQ.rw (t := 21) (v := .slice B ys.length cq) (congrArg (fun a => Value.slice a ys.length cq) (Eq.symm hA14)) (k := ?_)
      refine WQ.load (v := GTask.val r12) (fun w_ k_ => ((he15.adds K).adds k_).ldW (T := 44)) (k := ?_)
      refine WQ.bin (d := 25) (v := .bool (!(decide (r6 = r12)))) (fun w_ => neqTaskV r6 r12 w_) (k := ?_)
      refine WQ.nilX (fun w16 k17 => ?_)
      replace K := K.trans (k17.any _)
      refine WX.seqN ?_
      refine WC.cond (b := !(decide (r6 = r12))) (ht := fun h18 => ?_) (hf := fun h18 => ?_)
      · have h19 : (decide (r6 = r12)) = false := by simpa using h18
        have ph19 := of_decide_eq_false h19
        refine WC.seq ?_
        refine WC.region ?_
        refine WL.op (d := 4) (.bool false) (k := ?_)
        refine WL.nil ?_
        refine WX.seqN ?_
        refine WC.ret ?_
        refine WX.blockR ?_
        refine WX.seqR ?_
        refine WX.seqR ?_
        refine WX.blockR ?_
        refine WX.seqR ?_
        refine WX.ret (rs := [.tmp 4]) [.bool false] (.bool false) ⟨(by kernel_rfl), trivial⟩ (k := ?_)
        exact ⟨ret_bool (eqU_bad hr7 hr13 ph19), K⟩
      · have h20 : (decide (r6 = r12)) = true := by simpa using h18
        have ph20 := of_decide_eq_true h20
        refine WC.skip ?_
        refine WX.blockN ?_
        refine WX.seqN ?_
        refine WC.region ?_
        refine WL.op (d := 15) (.int .i64 i) (k := ?_)
        refine WL.opE (d := 16) (.int .i64 (IntKind.i64.wrap (i + 1))) (v := .int .i64 (i + 1)) (congrArg (Value.int .i64) (IntWalk.i64_in _ (by omega))) (k := ?_)
        refine WL.op (d := 5) (.int .i64 (i + 1)) (k := ?_)
        refine WL.nil ?_
        refine WX.round (i + 1) (by show (xs.length - (i + 1)).toNat < (xs.length - i).toNat; omega) ⟨(by kernel_rfl), (by kernel_rfl), (by kernel_rfl), (by kernel_rfl), (by kernel_rfl), (by kernel_rfl), (by kernel_rfl), (by kernel_rfl), trivial⟩ ⟨K, (by omega), (by omega), (eqU_succ i0 iu hr7 hr13 ph20)⟩
    · have ph3 := of_decide_eq_false h3
      refine WC.exit ?_
      refine WX.seqE ?_
      refine WX.seqE ?_
      refine WX.blockE ?_
      refine WX.seqN ?_
      refine WC.seq ?_
      refine WC.region ?_
      refine WL.op (d := 4) (.bool true) (k := ?_)
      refine WL.nil ?_
      refine WX.seqN ?_
      refine WC.ret ?_
      refine WX.ret (rs := [.tmp 4]) [.bool true] (.bool true) ⟨(by kernel_rfl), trivial⟩ (k := ?_)
      exact ⟨ret_bool (eqU_end (i := i) (by omega) (by omega) iu), K⟩

set_option maxRecDepth 100000 in
theorem tSame_c {A B : Option Addr} {cp cq : Nat} {xs ys : List GRow} {ma mb : Int} {w : World} (hA : SlAt rowC 6 53 A xs w) (hB : SlAt rowC 6 53 B ys w) (hn : xs.length ≤ 1000000000) (hm : ys.length ≤ 1000000000) : Calls Try.prog 21 #[.agg #[.slice A xs.length cp, .int .i64 ma], .agg #[.slice B ys.length cq, .int .i64 mb]] w fun e w' => e = .returned (.bool (decide ((⟨xs, ma⟩ : GTable) = ⟨ys, mb⟩))) ∧ Adds w w' := by
  have K : Keeps (fun _ => False) w w := Keeps.refl _ w
  refine Calls.start Try.func21 rfl (by kernel_rfl) ?_
  refine WC.seq ?_
  refine WC.region ?_
  refine WL.new (d := 2) (T := 24) #[.slice A xs.length cp, .int .i64 ma] (k := fun b1 w2 g3 hb4 k5 => ?_)
  have z6 := Nat.le_trans K.size g3
  replace K := K.trans (k5.any _)
  refine WL.new (d := 3) (T := 24) #[.slice B ys.length cq, .int .i64 mb] (k := fun b7 w8 g9 hb10 k11 => ?_)
  have z12 := Nat.le_trans K.size g9
  have n13 : b1 ≠ b7 := Nat.ne_of_lt (Nat.lt_of_lt_of_le (lt_of_heap hb4) g9)
  replace hb4 := k11.heap hb4 id
  replace K := K.trans (k11.any _)
  refine WL.op (d := 4) (.bool false) (k := ?_)
  refine WL.nil ?_
  refine WX.seqN ?_
  refine WC.seq ?_
  refine WC.region ?_
  refine WL.op (d := 5) (.pointer (some ⟨b1, 1, none⟩)) (k := ?_)
  refine WL.load (v := .int .i64 ma) (ld1 (T := 3) (i := 1) hb4) (k := ?_)
  refine WL.op (d := 7) (.pointer (some ⟨b7, 1, none⟩)) (k := ?_)
  refine WL.load (v := .int .i64 mb) (ld1 (T := 3) (i := 1) hb10) (k := ?_)
  refine WL.op (d := 9) (.bool (ma == mb)) (k := ?_)
  refine WL.op (d := 10) (.bool (ma == mb)) (k := ?_)
  refine bsplit (ma == mb) (fun h14 => ?_) (fun h14 => ?_)
  · have ph14 := eq_of_beq h14
    refine WL.rw (t := 10) (v := .bool true) (congrArg Value.bool h14) (k := ?_)
    refine WL.op (d := 11) (.pointer (some ⟨b1, 0, none⟩)) (k := ?_)
    refine WL.load (v := .slice A xs.length cp) (ld1 (T := 22) (i := 0) hb4) (k := ?_)
    refine WL.op (d := 13) (.pointer (some ⟨b7, 0, none⟩)) (k := ?_)
    refine WL.load (v := .slice B ys.length cq) (ld1 (T := 22) (i := 0) hb10) (k := ?_)
    refine WL.callG (d := 15) (f := 56) (args := #[.slice A xs.length cp, .slice B ys.length cq]) (sEqual_c (hA.adds K) (hB.adds K) (by omega) (by omega)) (k := fun e_ w15 h_ => ⟨.bool (decide (xs = ys)), h_.1, ?_⟩)
    have k16 := h_.2; clear h_
    replace hb4 := k16.heap hb4 id
    replace hb10 := k16.heap hb10 id
    replace K := K.trans (k16.any _)
    refine WL.op (d := 16) (.bool (decide (xs = ys))) (k := ?_)
    refine WL.op (d := 4) (.bool (decide (xs = ys))) (k := ?_)
    refine WL.nil ?_
    refine WX.seqN ?_
    refine WC.ret ?_
    refine WX.ret (rs := [.tmp 4]) [.bool (decide (xs = ys))] (.bool (decide (xs = ys))) ⟨(by kernel_rfl), trivial⟩ (k := ?_)
    exact ⟨ret_bool (same_rows ph14), K⟩
  · have ph14 := ne_of_beq_false h14
    refine WL.rw (t := 10) (v := .bool false) (congrArg Value.bool h14) (k := ?_)
    refine WL.skip (d := 11) (k := ?_)
    refine WL.skip (d := 12) (k := ?_)
    refine WL.skip (d := 13) (k := ?_)
    refine WL.skip (d := 14) (k := ?_)
    refine WL.skip (d := 15) (k := ?_)
    refine WL.op (d := 16) (.bool false) (k := ?_)
    refine WL.op (d := 4) (.bool false) (k := ?_)
    refine WL.nil ?_
    refine WX.seqN ?_
    refine WC.ret ?_
    refine WX.ret (rs := [.tmp 4]) [.bool false] (.bool false) ⟨(by kernel_rfl), trivial⟩ (k := ?_)
    exact ⟨ret_bool (same_mode ph14), K⟩

set_option maxRecDepth 100000 in
theorem u14Same_c {A B : Option Addr} {cp cq : Nat} {xs ys : List GRow} {ma mb : Int} {w : World} (hA : SlAt rowC 6 53 A xs w) (hB : SlAt rowC 6 53 B ys w) (hn : xs.length ≤ 1000000000) (hm : ys.length ≤ 1000000000) : Calls Try.prog 22 #[.agg #[.slice A xs.length cp, .int .i64 ma], .agg #[.slice B ys.length cq, .int .i64 mb]] w fun e w' => e = .returned (.bool (decide ((⟨xs, ma⟩ : GTable) = ⟨ys, mb⟩))) ∧ Adds w w' := by
  have K : Keeps (fun _ => False) w w := Keeps.refl _ w
  refine Calls.start Try.func22 rfl (by kernel_rfl) ?_
  refine WC.seq ?_
  refine WC.region ?_
  refine WL.new (d := 2) (T := 24) #[.slice A xs.length cp, .int .i64 ma] (k := fun b1 w2 g3 hb4 k5 => ?_)
  have z6 := Nat.le_trans K.size g3
  replace K := K.trans (k5.any _)
  refine WL.new (d := 3) (T := 24) #[.slice B ys.length cq, .int .i64 mb] (k := fun b7 w8 g9 hb10 k11 => ?_)
  have z12 := Nat.le_trans K.size g9
  have n13 : b1 ≠ b7 := Nat.ne_of_lt (Nat.lt_of_lt_of_le (lt_of_heap hb4) g9)
  replace hb4 := k11.heap hb4 id
  replace K := K.trans (k11.any _)
  refine WL.op (d := 4) (.bool false) (k := ?_)
  refine WL.nil ?_
  refine WX.seqN ?_
  refine WC.seq ?_
  refine WC.seq ?_
  refine WC.region ?_
  refine WL.op (d := 6) (.pointer (some ⟨b1, 0, none⟩)) (k := ?_)
  refine WL.load (v := .slice A xs.length cp) (ld1 (T := 22) (i := 0) hb4) (k := ?_)
  refine WL.op (d := 8) (.int .i64 (xs.length : Int)) (k := ?_)
  refine WL.op (d := 9) (.pointer (some ⟨b7, 0, none⟩)) (k := ?_)
  refine WL.load (v := .slice B ys.length cq) (ld1 (T := 22) (i := 0) hb10) (k := ?_)
  refine WL.op (d := 11) (.int .i64 (ys.length : Int)) (k := ?_)
  refine WL.op (d := 12) (.bool ((xs.length : Int) != (ys.length : Int))) (k := ?_)
  refine WL.op (d := 13) (.bool ((xs.length : Int) != (ys.length : Int))) (k := ?_)
  refine bsplit ((xs.length : Int) != (ys.length : Int)) (fun h14 => ?_) (fun h14 => ?_)
  · have ph14 := bne_iff_ne.1 h14
    refine WL.rw (t := 13) (v := .bool true) (congrArg Value.bool h14) (k := ?_)
    refine WL.skip (d := 14) (k := ?_)
    refine WL.skip (d := 15) (k := ?_)
    refine WL.skip (d := 16) (k := ?_)
    refine WL.skip (d := 17) (k := ?_)
    refine WL.skip (d := 18) (k := ?_)
    refine WL.op (d := 19) (.bool true) (k := ?_)
    refine WL.nil ?_
    refine WX.seqN ?_
    refine WC.condT (k := ?_)
    refine WC.seq ?_
    refine WC.region ?_
    refine WL.op (d := 4) (.bool false) (k := ?_)
    refine WL.nil ?_
    refine WX.seqN ?_
    refine WC.ret ?_
    refine WX.seqR ?_
    refine WX.ret (rs := [.tmp 4]) [.bool false] (.bool false) ⟨(by kernel_rfl), trivial⟩ (k := ?_)
    exact ⟨ret_bool (same_len (by omega)), K⟩
  · have ph14 := of_bne_false h14
    refine WL.rw (t := 13) (v := .bool false) (congrArg Value.bool h14) (k := ?_)
    refine WL.op (d := 14) (.pointer (some ⟨b1, 1, none⟩)) (k := ?_)
    refine WL.load (v := .int .i64 ma) (ld1 (T := 3) (i := 1) hb4) (k := ?_)
    refine WL.op (d := 16) (.pointer (some ⟨b7, 1, none⟩)) (k := ?_)
    refine WL.load (v := .int .i64 mb) (ld1 (T := 3) (i := 1) hb10) (k := ?_)
    refine WL.op (d := 18) (.bool (ma != mb)) (k := ?_)
    refine WL.op (d := 19) (.bool (ma != mb)) (k := ?_)
    refine WL.nil ?_
    refine WX.seqN ?_
    refine WC.cond (b := ma != mb) (ht := fun h15 => ?_) (hf := fun h15 => ?_)
    · have ph15 := bne_iff_ne.1 h15
      refine WC.seq ?_
      refine WC.region ?_
      refine WL.op (d := 4) (.bool false) (k := ?_)
      refine WL.nil ?_
      refine WX.seqN ?_
      refine WC.ret ?_
      refine WX.seqR ?_
      refine WX.ret (rs := [.tmp 4]) [.bool false] (.bool false) ⟨(by kernel_rfl), trivial⟩ (k := ?_)
      exact ⟨ret_bool (same_mode ph15), K⟩
    · have ph15 := of_bne_false h15
      refine WC.skip ?_
      refine WX.seqN ?_
      refine WC.seq ?_
      refine WC.seq ?_
      refine WC.region ?_
      refine WL.op (d := 5) (.int .i64 0) (k := ?_)
      refine WL.nil ?_
      refine WX.seqN ?_
      refine WC.block ?_
      refine WC.loop (ι := Int) (fun (i : Int) => [(0, .agg #[.slice A xs.length cp, .int .i64 ma]), (1, .agg #[.slice B ys.length cq, .int .i64 mb]), (2, .pointer (some ⟨b1, 0, none⟩)), (3, .pointer (some ⟨b7, 0, none⟩)), (6, .pointer (some ⟨b1, 0, none⟩)), (7, .slice A xs.length cp), (8, .int .i64 (xs.length : Int)), (9, .pointer (some ⟨b7, 0, none⟩)), (10, .slice B ys.length cq), (11, .int .i64 (ys.length : Int)), (12, .bool ((xs.length : Int) != (ys.length : Int))), (13, .bool false), (14, .pointer (some ⟨b1, 1, none⟩)), (15, .int .i64 ma), (16, .pointer (some ⟨b7, 1, none⟩)), (17, .int .i64 mb), (18, .bool (ma != mb)), (19, .bool (ma != mb)), (5, .int .i64 i)]) (fun (i : Int) (w_ : World) => (Keeps (fun _ => False) w w_) ∧ (w_.heap[b1]? = some (.cells #[.slice A xs.length cp, .int .i64 ma] 24 (0, 0))) ∧ (w_.heap[b7]? = some (.cells #[.slice B ys.length cq, .int .i64 mb] 24 (0, 0))) ∧ (0 ≤ i) ∧ (i ≤ xs.length) ∧ (eqU xs ys i)) (fun (i : Int) => (xs.length - i).toNat) 0 ⟨(by kernel_rfl), (by kernel_rfl), (by kernel_rfl), (by kernel_rfl), (by kernel_rfl), (by kernel_rfl), (by kernel_rfl), (by kernel_rfl), (by kernel_rfl), (by kernel_rfl), (by kernel_rfl), (by kernel_rfl), (by kernel_rfl), (by kernel_rfl), (by kernel_rfl), (by kernel_rfl), (by kernel_rfl), (by kernel_rfl), (by kernel_rfl), trivial⟩ ⟨K, hb4, hb10, Int.le_refl 0, (by omega), eqU_zero _ _⟩ ?_
      rintro i w16 ⟨K, hb17, hb18, i0, i1, iu⟩
      refine WC.seq ?_
      refine WC.seq ?_
      refine WC.region ?_
      refine WL.op (d := 20) (.int .i64 i) (k := ?_)
      refine WL.op (d := 21) (.pointer (some ⟨b1, 0, none⟩)) (k := ?_)
      refine WL.load (v := .slice A xs.length cp) (ld1 (T := 22) (i := 0) hb17) (k := ?_)
      refine WL.op (d := 23) (.int .i64 (xs.length : Int)) (k := ?_)
      refine WL.op (d := 24) (.bool (decide (i < (xs.length : Int)))) (k := ?_)
      refine WL.nil ?_
      refine WX.seqN ?_
      refine WC.cond (b := decide (i < (xs.length : Int))) (ht := fun h19 => ?_) (hf := fun h19 => ?_)
      · have ph19 := of_decide_eq_true h19
        refine WC.skip ?_
        refine WX.seqN ?_
        refine WC.seq ?_
        refine WC.block ?_
        refine WC.seq ?_
        refine WC.quiet (k := ?_)
        refine WQ.op (d := 27) (.pointer (some ⟨b1, 0, none⟩)) (k := ?_)
        refine WQ.load (v := .slice A xs.length cp) (fun w_ k_ => ld1 (T := 22) (i := 0) (k_.heap hb17 id)) (k := ?_)
        refine WQ.op (d := 29) (.int .i64 i) (k := ?_)
        obtain ⟨b20, o21, r22, hr23, hA24, he25⟩ := SlAt.at hA (i := i) (by omega) (by omega)
        refine WQ.rw (t := 28) (v := .slice (some ⟨b20, o21, none⟩) xs.length cp) (congrArg (fun a => Value.slice a xs.length cp) hA24) (k := ?_)
        refine WQ.idx (T := 22) (E := 53) (m := 6) (b := b20) (o := o21) (len := xs.length) (cap := cp) (i := i) (kk := .i64) (d := 30) (by omega) (by omega) (k := ?_)
        refine WQ.rw (t := 28) (v := .slice A xs.length cp) (congrArg (fun a => Value.slice a xs.length cp) (Eq.symm hA24)) (k := ?_)
        refine WQ.load (v := GRow.val r22) (fun w_ k_ => ((he25.adds K).adds k_).ldW (T := 53)) (k := ?_)
        refine WQ.op (d := 32) (.pointer (some ⟨b7, 0, none⟩)) (k := ?_)
        refine WQ.load (v := .slice B ys.length cq) (fun w_ k_ => ld1 (T := 22) (i := 0) (k_.heap hb18 id)) (k := ?_)
        refine WQ.op (d := 34) (.int .i64 i) (k := ?_)
        obtain ⟨b26, o27, r28, hr29, hA30, he31⟩ := SlAt.at hB (i := i) (by omega) (by omega)
        refine WQ.rw (t := 33) (v := .slice (some ⟨b26, o27, none⟩) ys.length cq) (congrArg (fun a => Value.slice a ys.length cq) hA30) (k := ?_)
        refine WQ.idx (T := 22) (E := 53) (m := 6) (b := b26) (o := o27) (len := ys.length) (cap := cq) (i := i) (kk := .i64) (d := 35) (by omega) (by omega) (k := ?_)
        refine WQ.rw (t := 33) (v := .slice B ys.length cq) (congrArg (fun a => Value.slice a ys.length cq) (Eq.symm hA30)) (k := ?_)
        refine WQ.load (v := GRow.val r28) (fun w_ k_ => ((he31.adds K).adds k_).ldW (T := 53)) (k := ?_)
        refine WQ.bin (d := 37) (v := .bool (!(decide (r22 = r28)))) (fun w_ => neqRowV r22 r28 w_) (k := ?_)
        refine WQ.nilX (fun w32 k33 => ?_)
        replace hb17 := k33.heap hb17 id
        replace hb18 := k33.heap hb18 id
        replace K := K.trans (k33.any _)
        refine WX.seqN ?_
        refine WC.cond (b := !(decide (r22 = r28))) (ht := fun h34 => ?_) (hf := fun h34 => ?_)
        · have h35 : (decide (r22 = r28)) = false := by simpa using h34
          have ph35 := of_decide_eq_false h35
          refine WC.seq ?_
          refine WC.region ?_
          refine WL.op (d := 4) (.bool false) (k := ?_)
          refine WL.nil ?_
          refine WX.seqN ?_
          refine WC.ret ?_
          refine WX.blockR ?_
          refine WX.seqR ?_
          refine WX.seqR ?_
          refine WX.blockR ?_
          refine WX.seqR ?_
          refine WX.ret (rs := [.tmp 4]) [.bool false] (.bool false) ⟨(by kernel_rfl), trivial⟩ (k := ?_)
          exact ⟨ret_bool ((eqU_bad hr23 hr29 ph35).trans (same_rows ph15)), K⟩
        · have h36 : (decide (r22 = r28)) = true := by simpa using h34
          have ph36 := of_decide_eq_true h36
          refine WC.skip ?_
          refine WX.blockN ?_
          refine WX.seqN ?_
          refine WC.region ?_
          refine WL.op (d := 25) (.int .i64 i) (k := ?_)
          refine WL.opE (d := 26) (.int .i64 (IntKind.i64.wrap (i + 1))) (v := .int .i64 (i + 1)) (congrArg (Value.int .i64) (IntWalk.i64_in _ (by omega))) (k := ?_)
          refine WL.op (d := 5) (.int .i64 (i + 1)) (k := ?_)
          refine WL.nil ?_
          refine WX.round (i + 1) (by show (xs.length - (i + 1)).toNat < (xs.length - i).toNat; omega) ⟨(by kernel_rfl), (by kernel_rfl), (by kernel_rfl), (by kernel_rfl), (by kernel_rfl), (by kernel_rfl), (by kernel_rfl), (by kernel_rfl), (by kernel_rfl), (by kernel_rfl), (by kernel_rfl), (by kernel_rfl), (by kernel_rfl), (by kernel_rfl), (by kernel_rfl), (by kernel_rfl), (by kernel_rfl), (by kernel_rfl), (by kernel_rfl), trivial⟩ ⟨K, hb17, hb18, (by omega), (by omega), (eqU_succ i0 iu hr23 hr29 ph36)⟩
      · have ph19 := of_decide_eq_false h19
        refine WC.exit ?_
        refine WX.seqE ?_
        refine WX.seqE ?_
        refine WX.blockE ?_
        refine WX.seqN ?_
        refine WC.seq ?_
        refine WC.region ?_
        refine WL.op (d := 4) (.bool true) (k := ?_)
        refine WL.nil ?_
        refine WX.seqN ?_
        refine WC.ret ?_
        refine WX.ret (rs := [.tmp 4]) [.bool true] (.bool true) ⟨(by kernel_rfl), trivial⟩ (k := ?_)
        exact ⟨ret_bool ((eqU_end (i := i) (by omega) (by omega) iu).trans (same_rows ph15)), K⟩

set_option maxRecDepth 100000 in
theorem tTasks_c {A : Option Addr} {cp : Nat} {rows : List GRow} {md : Int} {w : World} (hA : SlAt rowC 6 53 A rows w) (hn : rows.length ≤ 1000000000) : Calls Try.prog 51 #[.agg #[.slice A rows.length cp, .int .i64 md]] w fun e w' => ∃ A' c', e = .returned (.slice A' (rows.map GRow.task).length c') ∧ OwAt taskC 5 44 A' c' (rows.map GRow.task) w' ∧ Adds w w' ∧ (∀ i, blk A' = some i → w.heap.size ≤ i) := by
  have K : Keeps (fun _ => False) w w := Keeps.refl _ w
  refine Calls.start Try.func51 rfl (by kernel_rfl) ?_
  refine WC.seq ?_
  refine WC.region ?_
  refine WL.new (d := 1) (T := 24) #[.slice A rows.length cp, .int .i64 md] (k := fun b1 w2 g3 hb4 k5 => ?_)
  have z6 := Nat.le_trans K.size g3
  replace K := K.trans (k5.any _)
  refine WL.op (d := 2) (.slice none 0 0) (k := ?_)
  refine WL.nil ?_
  refine WX.seqN ?_
  refine WC.seq ?_
  refine WC.region ?_
  refine WL.op (d := 3) (.slice none 0 0) (k := ?_)
  refine WL.nil ?_
  refine WX.seqN ?_
  refine WC.seq ?_
  refine WC.seq ?_
  refine WC.region ?_
  refine WL.op (d := 6) (.pointer (some ⟨b1, 0, none⟩)) (k := ?_)
  refine WL.load (v := .slice A rows.length cp) (ld1 (T := 22) (i := 0) hb4) (k := ?_)
  refine WL.op (d := 8) (.int .i64 (rows.length : Int)) (k := ?_)
  refine WL.op (d := 9) (.int .i64 0) (k := ?_)
  refine WL.nil ?_
  refine WX.seqN ?_
  refine WC.block ?_
  refine WC.loop (ι := Int × (Option Addr) × Nat) (fun (⟨i, Ao, co⟩ : Int × (Option Addr) × Nat) => [(0, .agg #[.slice A rows.length cp, .int .i64 md]), (1, .pointer (some ⟨b1, 0, none⟩)), (2, .slice none 0 0), (6, .pointer (some ⟨b1, 0, none⟩)), (7, .slice A rows.length cp), (8, .int .i64 (rows.length : Int)), (9, .int .i64 i), (3, .slice Ao (((rows.take i.toNat).map GRow.task).length) co)]) (fun (⟨i, Ao, co⟩ : Int × (Option Addr) × Nat) (w_ : World) => (Keeps (fun _ => False) w w_) ∧ (w_.heap[b1]? = some (.cells #[.slice A rows.length cp, .int .i64 md] 24 (0, 0))) ∧ (OwAt taskC 5 44 Ao co ((rows.take i.toNat).map GRow.task) w_) ∧ (∀ i, blk Ao = some i → w.heap.size ≤ i) ∧ (0 ≤ i) ∧ (i ≤ rows.length)) (fun (⟨i, Ao, co⟩ : Int × (Option Addr) × Nat) => (rows.length - i).toNat) (0, none, 0) ⟨(by kernel_rfl), (by kernel_rfl), (by kernel_rfl), (by kernel_rfl), (by kernel_rfl), (by kernel_rfl), (by kernel_rfl), (by kernel_rfl), trivial⟩ ⟨K, hb4, OwAt.nil, (by simp [blk]), Int.le_refl 0, (by omega)⟩ ?_
  rintro ⟨i, Ao, co⟩ w7 ⟨K, hb8, hb9, ol10, i0, i1⟩
  refine WC.seq ?_
  refine WC.region ?_
  refine WL.op (d := 10) (.bool (decide (i < (rows.length : Int)))) (k := ?_)
  refine WL.nil ?_
  refine WX.seqN ?_
  refine WC.seq ?_
  refine WC.cond (b := decide (i < (rows.length : Int))) (ht := fun h11 => ?_) (hf := fun h11 => ?_)
  · have ph11 := of_decide_eq_true h11
    refine WC.skip ?_
    refine WX.seqN ?_
    refine WC.seq ?_
    refine WC.block ?_
    refine WC.seq ?_
    refine WC.region ?_
    obtain ⟨b12, o13, r14, hr15, hA16, he17⟩ := SlAt.at hA (i := i) (by omega) (by omega)
    refine WL.rw (t := 7) (v := .slice (some ⟨b12, o13, none⟩) rows.length cp) (congrArg (fun a => Value.slice a rows.length cp) hA16) (k := ?_)
    refine WL.idx (T := 22) (E := 53) (m := 6) (b := b12) (o := o13) (len := rows.length) (cap := cp) (i := i) (kk := .i64) (d := 11) (by omega) (by omega) (k := ?_)
    refine WL.rw (t := 7) (v := .slice A rows.length cp) (congrArg (fun a => Value.slice a rows.length cp) (Eq.symm hA16)) (k := ?_)
    refine WL.load (v := GRow.val r14) ((he17.adds K).ldW (T := 53)) (k := ?_)
    refine WL.new (d := 5) (T := 53) #[.int .i64 0, .int .i64 0, .int .i64 0, .int .i64 0, .int .i64 0, .bool false] (k := fun b18 w19 g20 hb21 k22 => ?_)
    have z23 := Nat.le_trans K.size g20
    have n24 : b1 ≠ b18 := Nat.ne_of_lt (Nat.lt_of_lt_of_le (lt_of_heap hb8) g20)
    replace hb8 := k22.heap hb8 id
    replace hb9 := hb9.adds k22
    replace K := K.trans (k22.any _)
    refine WL.store (v := GRow.val r14) (i := 0) (cs' := (Value.cells (GRow.val r14))) hb21 (k := fun w25 hb26 k27 => ?_)
    replace hb8 := k27.heap hb8 n24
    replace hb9 := hb9.keeps k27 (fun i hi e => (hb9.offT hb21 (by decide)) (e ▸ hi))
    replace K := K.trans' k27 (fun i hi e => absurd (e ▸ hi) (Nat.not_lt.2 z23))
    clear hb21
    refine WL.nil ?_
    refine WX.seqN ?_
    refine WC.region ?_
    refine WL.op (d := 13) (.slice Ao (((rows.take i.toNat).map GRow.task).length) co) (k := ?_)
    refine WL.op (d := 14) (.pointer (some ⟨b18, 0, none⟩)) (k := ?_)
    refine WL.load (v := GTask.val r14.task) (ldN (T := 44) (i := 0) (m := 5) (l := (Value.cells (GTask.val r14.task)).toList) hb26) (k := ?_)
    refine WL.newF (d := 16) (T := 44) (Value.cells (GTask.val r14.task)) (fun b => .slice (some ⟨b, 0, none⟩) 1 1) (k := fun b28 w29 g30 hb31 k32 => ?_)
    have z33 := Nat.le_trans K.size g30
    have n34 : b1 ≠ b28 := Nat.ne_of_lt (Nat.lt_of_lt_of_le (lt_of_heap hb8) g30)
    have n35 : b18 ≠ b28 := Nat.ne_of_lt (Nat.lt_of_lt_of_le (lt_of_heap hb26) g30)
    replace hb8 := k32.heap hb8 id
    replace hb9 := hb9.adds k32
    replace hb26 := k32.heap hb26 id
    replace K := K.trans (k32.any _)
    refine WL.append (d := 17) (T := 50) (cl := taskC) (xs := (rows.take i.toNat).map GRow.task) (ys := [r14.task]) (c := 1) ekTask hb9 (SlAt.of_lit (ys := [r14.task]) ekTask hb31 (by kernel_rfl)) (by first | omega | (simp; omega)) (k := fun A36 c37 w38 ho39 k40 n41 => ?_)
    have ol42 := olink_step ol10 K n41
    replace hb8 := k40.heap hb8 (hb9.offT hb8 (by decide))
    replace hb26 := k40.heap hb26 (hb9.offT hb26 (by decide))
    replace K := K.trans' k40 (fun i hi e => absurd hi (Nat.not_lt.2 (ol10 i e)))
    clear hb9
    refine WL.op (d := 3) (.slice A36 (((rows.take i.toNat).map GRow.task ++ [r14.task]).length) c37) (k := ?_)
    refine WL.nil ?_
    refine WX.blockN ?_
    refine WX.seqN ?_
    refine WC.region ?_
    refine WL.opE (d := 18) (.int .i64 (IntKind.i64.wrap (i + 1))) (v := .int .i64 (i + 1)) (congrArg (Value.int .i64) (IntWalk.i64_in _ (by omega))) (k := ?_)
    refine WL.op (d := 9) (.int .i64 (i + 1)) (k := ?_)
    refine WL.nil ?_
    have e43 : (rows.take i.toNat).map GRow.task ++ [r14.task] = (rows.take (i + 1).toNat).map GRow.task := map_takeI GRow.task i0 hr15
    rw [e43] at ho39
    refine WX.rw (t := 3) (v := .slice A36 (((rows.take (i + 1).toNat).map GRow.task).length) c37) (congrArg (fun l => Value.slice A36 (List.length l) c37) e43) (k := ?_)
    refine WX.round (i + 1, A36, c37) (by show (rows.length - (i + 1)).toNat < (rows.length - i).toNat; omega) ⟨(by kernel_rfl), (by kernel_rfl), (by kernel_rfl), (by kernel_rfl), (by kernel_rfl), (by kernel_rfl), (by kernel_rfl), (by kernel_rfl), trivial⟩ ⟨K, hb8, ho39, ol42, (by omega), (by omega)⟩
  · have ph11 := of_decide_eq_false h11
    refine WC.exit ?_
    refine WX.seqE ?_
    refine WX.seqE ?_
    refine WX.blockE ?_
    refine WX.seqN ?_
    refine WC.seq ?_
    refine WC.region ?_
    refine WL.op (d := 19) (.slice Ao (((rows.take i.toNat).map GRow.task).length) co) (k := ?_)
    refine WL.op (d := 2) (.slice Ao (((rows.take i.toNat).map GRow.task).length) co) (k := ?_)
    refine WL.nil ?_
    refine WX.seqN ?_
    refine WC.ret ?_
    refine WX.ret (rs := [.tmp 2]) [.slice Ao (((rows.take i.toNat).map GRow.task).length) co] (.slice Ao (((rows.take i.toNat).map GRow.task).length) co) ⟨(by kernel_rfl), trivial⟩ (k := ?_)
    have e_ : rows.take i.toNat = rows := take_endI (by omega)
    rw [e_] at hb9 ⊢
    exact ⟨_, _, rfl, hb9, K, ol10⟩

set_option maxRecDepth 100000 in
theorem u14Tasks_c {A : Option Addr} {cp : Nat} {rows : List GRow} {md : Int} {w : World} (hA : SlAt rowC 6 53 A rows w) (hn : rows.length ≤ 1000000000) : Calls Try.prog 52 #[.agg #[.slice A rows.length cp, .int .i64 md]] w fun e w' => ∃ A' c', e = .returned (.slice A' (rows.map GRow.task).length c') ∧ OwAt taskC 5 44 A' c' (rows.map GRow.task) w' ∧ Adds w w' ∧ (∀ i, blk A' = some i → w.heap.size ≤ i) := by
  have K : Keeps (fun _ => False) w w := Keeps.refl _ w
  refine Calls.start Try.func52 rfl (by kernel_rfl) ?_
  refine WC.seq ?_
  refine WC.region ?_
  refine WL.new (d := 1) (T := 24) #[.slice A rows.length cp, .int .i64 md] (k := fun b1 w2 g3 hb4 k5 => ?_)
  have z6 := Nat.le_trans K.size g3
  replace K := K.trans (k5.any _)
  refine WL.op (d := 2) (.slice none 0 0) (k := ?_)
  refine WL.nil ?_
  refine WX.seqN ?_
  refine WC.seq ?_
  refine WC.region ?_
  refine WL.op (d := 3) (.slice none 0 0) (k := ?_)
  refine WL.nil ?_
  refine WX.seqN ?_
  refine WC.seq ?_
  refine WC.seq ?_
  refine WC.region ?_
  refine WL.op (d := 4) (.int .i64 0) (k := ?_)
  refine WL.nil ?_
  refine WX.seqN ?_
  refine WC.block ?_
  refine WC.loop (ι := Int × (Option Addr) × Nat) (fun (⟨i, Ao, co⟩ : Int × (Option Addr) × Nat) => [(0, .agg #[.slice A rows.length cp, .int .i64 md]), (1, .pointer (some ⟨b1, 0, none⟩)), (2, .slice none 0 0), (4, .int .i64 i), (3, .slice Ao (((rows.take i.toNat).map GRow.task).length) co)]) (fun (⟨i, Ao, co⟩ : Int × (Option Addr) × Nat) (w_ : World) => (Keeps (fun _ => False) w w_) ∧ (w_.heap[b1]? = some (.cells #[.slice A rows.length cp, .int .i64 md] 24 (0, 0))) ∧ (OwAt taskC 5 44 Ao co ((rows.take i.toNat).map GRow.task) w_) ∧ (∀ i, blk Ao = some i → w.heap.size ≤ i) ∧ (0 ≤ i) ∧ (i ≤ rows.length)) (fun (⟨i, Ao, co⟩ : Int × (Option Addr) × Nat) => (rows.length - i).toNat) (0, none, 0) ⟨(by kernel_rfl), (by kernel_rfl), (by kernel_rfl), (by kernel_rfl), (by kernel_rfl), trivial⟩ ⟨K, hb4, OwAt.nil, (by simp [blk]), Int.le_refl 0, (by omega)⟩ ?_
  rintro ⟨i, Ao, co⟩ w7 ⟨K, hb8, hb9, ol10, i0, i1⟩
  refine WC.seq ?_
  refine WC.seq ?_
  refine WC.region ?_
  refine WL.op (d := 5) (.int .i64 i) (k := ?_)
  refine WL.op (d := 6) (.pointer (some ⟨b1, 0, none⟩)) (k := ?_)
  refine WL.load (v := .slice A rows.length cp) (ld1 (T := 22) (i := 0) hb8) (k := ?_)
  refine WL.op (d := 8) (.int .i64 (rows.length : Int)) (k := ?_)
  refine WL.op (d := 9) (.bool (decide (i < (rows.length : Int)))) (k := ?_)
  refine WL.nil ?_
  refine WX.seqN ?_
  refine WC.cond (b := decide (i < (rows.length : Int))) (ht := fun h11 => ?_) (hf := fun h11 => ?_)
  · have ph11 := of_decide_eq_true h11
    refine WC.skip ?_
    refine WX.seqN ?_
    refine WC.seq ?_
    refine WC.block ?_
    refine WC.region ?_
    refine WL.op (d := 12) (.slice Ao (((rows.take i.toNat).map GRow.task).length) co) (k := ?_)
    refine WL.op (d := 13) (.pointer (some ⟨b1, 0, none⟩)) (k := ?_)
    refine WL.load (v := .slice A rows.length cp) (ld1 (T := 22) (i := 0) hb8) (k := ?_)
    refine WL.op (d := 15) (.int .i64 i) (k := ?_)
    obtain ⟨b12, o13, r14, hr15, hA16, he17⟩ := SlAt.at hA (i := i) (by omega) (by omega)
    refine WL.rw (t := 14) (v := .slice (some ⟨b12, o13, none⟩) rows.length cp) (congrArg (fun a => Value.slice a rows.length cp) hA16) (k := ?_)
    refine WL.idx (T := 22) (E := 53) (m := 6) (b := b12) (o := o13) (len := rows.length) (cap := cp) (i := i) (kk := .i64) (d := 16) (by omega) (by omega) (k := ?_)
    refine WL.rw (t := 14) (v := .slice A rows.length cp) (congrArg (fun a => Value.slice a rows.length cp) (Eq.symm hA16)) (k := ?_)
    refine WL.op (d := 17) (.pointer (some ⟨b12, o13 + (i).toNat * 6, none⟩)) (k := ?_)
    refine WL.load (v := GTask.val r14.task) ((he17.adds K).ldA0 (T := 44) (k := 5) (l := (Value.cells (GTask.val r14.task)).toList)) (k := ?_)
    refine WL.newF (d := 19) (T := 44) (Value.cells (GTask.val r14.task)) (fun b => .slice (some ⟨b, 0, none⟩) 1 1) (k := fun b18 w19 g20 hb21 k22 => ?_)
    have z23 := Nat.le_trans K.size g20
    have n24 : b1 ≠ b18 := Nat.ne_of_lt (Nat.lt_of_lt_of_le (lt_of_heap hb8) g20)
    replace hb8 := k22.heap hb8 id
    replace hb9 := hb9.adds k22
    replace K := K.trans (k22.any _)
    refine WL.append (d := 20) (T := 50) (cl := taskC) (xs := (rows.take i.toNat).map GRow.task) (ys := [r14.task]) (c := 1) ekTask hb9 (SlAt.of_lit (ys := [r14.task]) ekTask hb21 (by kernel_rfl)) (by first | omega | (simp; omega)) (k := fun A25 c26 w27 ho28 k29 n30 => ?_)
    have ol31 := olink_step ol10 K n30
    replace hb8 := k29.heap hb8 (hb9.offT hb8 (by decide))
    replace K := K.trans' k29 (fun i hi e => absurd hi (Nat.not_lt.2 (ol10 i e)))
    clear hb9
    refine WL.op (d := 3) (.slice A25 (((rows.take i.toNat).map GRow.task ++ [r14.task]).length) c26) (k := ?_)
    refine WL.nil ?_
    refine WX.blockN ?_
    refine WX.seqN ?_
    refine WC.region ?_
    refine WL.op (d := 10) (.int .i64 i) (k := ?_)
    refine WL.opE (d := 11) (.int .i64 (IntKind.i64.wrap (i + 1))) (v := .int .i64 (i + 1)) (congrArg (Value.int .i64) (IntWalk.i64_in _ (by omega))) (k := ?_)
    refine WL.op (d := 4) (.int .i64 (i + 1)) (k := ?_)
    refine WL.nil ?_
    have e32 : (rows.take i.toNat).map GRow.task ++ [r14.task] = (rows.take (i + 1).toNat).map GRow.task := map_takeI GRow.task i0 hr15
    rw [e32] at ho28
    refine WX.rw (t := 3) (v := .slice A25 (((rows.take (i + 1).toNat).map GRow.task).length) c26) (congrArg (fun l => Value.slice A25 (List.length l) c26) e32) (k := ?_)
    refine WX.round (i + 1, A25, c26) (by show (rows.length - (i + 1)).toNat < (rows.length - i).toNat; omega) ⟨(by kernel_rfl), (by kernel_rfl), (by kernel_rfl), (by kernel_rfl), (by kernel_rfl), trivial⟩ ⟨K, hb8, ho28, ol31, (by omega), (by omega)⟩
  · have ph11 := of_decide_eq_false h11
    refine WC.exit ?_
    refine WX.seqE ?_
    refine WX.seqE ?_
    refine WX.blockE ?_
    refine WX.seqN ?_
    refine WC.seq ?_
    refine WC.region ?_
    refine WL.op (d := 21) (.slice Ao (((rows.take i.toNat).map GRow.task).length) co) (k := ?_)
    refine WL.op (d := 2) (.slice Ao (((rows.take i.toNat).map GRow.task).length) co) (k := ?_)
    refine WL.nil ?_
    refine WX.seqN ?_
    refine WC.ret ?_
    refine WX.ret (rs := [.tmp 2]) [.slice Ao (((rows.take i.toNat).map GRow.task).length) co] (.slice Ao (((rows.take i.toNat).map GRow.task).length) co) ⟨(by kernel_rfl), trivial⟩ (k := ?_)
    have e_ : rows.take i.toNat = rows := take_endI (by omega)
    rw [e_] at hb9 ⊢
    exact ⟨_, _, rfl, hb9, K, ol10⟩

end Go.Proofs.Ytpkcohhfkeinmaa
