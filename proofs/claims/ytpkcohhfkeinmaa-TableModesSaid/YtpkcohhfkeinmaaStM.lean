/- TableModes. -/
import Derived.Test.YtpkcohhfkeinmaaSt9
namespace Go.Proofs.Ytpkcohhfkeinmaa
open Go.RowKit
set_option linter.unusedVariables false
set_option linter.unusedSimpArgs false

theorem tSame_r {A B : Option Addr} {cp cq : Nat} {xs : List GRow} {ma : Int} {w : World} (hA : SlAt rowC 6 53 A xs w) (hB : SlAt rowC 6 53 B xs w) (hn : xs.length ≤ 1000000000) : Calls Try.prog 21 #[.agg #[.slice A xs.length cp, .int .i64 ma], .agg #[.slice B xs.length cq, .int .i64 ma]] w fun e w' => e = .returned (.bool true) ∧ Adds w w' := by
  have h := tSame_c (cp := cp) (cq := cq) (ma := ma) (mb := ma) hA hB hn hn
  simpa using h
theorem tApply_m {A : Option Addr} {cp : Nat} {t : GTable} {m : Int} {w : World} (hA : SlAt rowC 6 53 A t.rows w) (hc : t.rows.length ≤ cp) (hok : t.ok) (m0 : 0 ≤ m) (m1 : m ≤ 3) : Calls Try.prog 30 #[.agg #[.slice A t.rows.length cp, .int .i64 t.mode], GOp.val ⟨4, ⟨0, 0, 0, 0, 0⟩, false, 0, 0, m⟩] w (TabRes (⟨t.rows, m⟩, 0) w) := by
  have h := tApply_c hA hc (Nat.le_trans hok.2.1 (by decide)) t.mode ⟨4, ⟨0, 0, 0, 0, 0⟩, false, 0, 0, m⟩
  rw [show applyT ⟨t.rows, t.mode⟩ ⟨4, ⟨0, 0, 0, 0, 0⟩, false, 0, 0, m⟩ = (⟨t.rows, m⟩, 0) from apply_mode (t := t) hok m0 m1] at h
  exact h

set_option maxRecDepth 100000 in
set_option maxHeartbeats 4000000 in
theorem tableModes_any {L : Option Addr} {lc : Nat} {l : List GOp} {w : World} (hL : SlAt opC 10 46 L l w) (hl : l.length ≤ 9223372036854775807) (mode : Int) : Calls Try.prog 6 #[.slice L l.length lc, .int .i64 mode] w fun e w' => e = .returned (.bool true) ∧ Adds w w' := by
  have K : Keeps (fun _ => False) w w := Keeps.refl _ w
  refine Calls.start Try.func6 rfl (by kernel_rfl) ?_
  refine WC.seq ?_
  refine WC.region ?_
  refine WL.op (d := 4) (.bool false) (k := ?_)
  refine WL.nil ?_
  refine WX.seqN ?_
  refine WC.seq ?_
  refine WC.region ?_
  refine WL.callG (d := 13) (f := 16) (args := #[]) (l14awake_c w) (k := fun e_ w1 h_ => ⟨.bool true, h_.1, ?_⟩)
  have k2 := h_.2; clear h_
  replace K := K.trans (k2.any _)
  refine WL.op (d := 5) (.bool true) (k := ?_)
  refine WL.nil ?_
  refine WX.seqN ?_
  refine WC.seq ?_
  refine WC.region ?_
  refine WL.op (d := 14) (.slice L l.length lc) (k := ?_)
  refine WL.callG (d := 15) (f := 18) (args := #[.slice L l.length lc]) (l14made_c (lc := lc) (hL.adds K) (by omega)) (k := fun e_ w3 h_ => ?_)
  obtain ⟨A4, c5, rfl, ho6, k7, ol8⟩ := h_
  refine ⟨_, rfl, ?_⟩
  have ol9 := fun i h => Nat.le_trans K.size (ol8 i h)
  replace K := K.trans (k7.any _)
  clear ol8
  have ml10 := madeT_len l
  refine WL.new (d := 6) (T := 24) #[.slice none 0 0, .int .i64 0] (k := fun b11 w12 g13 hb14 k15 => ?_)
  have z16 := Nat.le_trans K.size g13
  replace ho6 := ho6.adds k15
  replace K := K.trans (k15.any _)
  refine WL.store (v := .agg #[.slice A4 (((madeT l).rows).length) c5, .int .i64 ((madeT l).mode)]) (i := 0) (cs' := #[.slice A4 (((madeT l).rows).length) c5, .int .i64 ((madeT l).mode)]) hb14 (k := fun w17 hb18 k19 => ?_)
  replace ho6 := ho6.keeps k19 (fun i hi e => (ho6.offT hb14 (by decide)) (e ▸ hi))
  replace K := K.trans' k19 (fun i hi e => absurd (e ▸ hi) (Nat.not_lt.2 z16))
  clear hb14
  refine WL.nil ?_
  refine WX.seqN ?_
  refine WC.seq ?_
  refine WC.region ?_
  refine WL.op (d := 16) (.int .i64 mode) (k := ?_)
  refine WL.bin (d := 17) (v := .int .i64 (bits BinOp.and IntKind.i64 mode 3)) (bits_run (by decide)) (k := ?_)
  have mr_ := bits_and3 mode
  obtain ⟨mm, em_⟩ : ∃ mm : Int, bits BinOp.and IntKind.i64 mode 3 = mm := ⟨_, rfl⟩
  rw [em_] at mr_
  obtain ⟨m0, m1⟩ := mr_
  refine WL.rw (t := 17) (v := .int .i64 mm) (congrArg (Value.int .i64) em_) (k := ?_)
  refine WL.op (d := 7) (.int .i64 mm) (k := ?_)
  refine WL.nil ?_
  refine WX.seqN ?_
  refine WC.seq ?_
  refine WC.region ?_
  refine WL.load (v := .agg #[.slice A4 (((madeT l).rows).length) c5, .int .i64 ((madeT l).mode)]) (ldN (T := 24) (i := 0) (m := 2) (l := [.slice A4 (((madeT l).rows).length) c5, .int .i64 ((madeT l).mode)]) hb18) (k := ?_)
  refine WL.op (d := 19) (.int .i64 mm) (k := ?_)
  refine WL.callG (d := 20) (f := 29) (args := #[.agg #[.slice A4 (((madeT l).rows).length) c5, .int .i64 ((madeT l).mode)], .int .i64 mm]) (tIn_c (cp := c5) (tm := (madeT l).mode) (md := mm) (ho6.sl ekRow) (by omega)) (k := fun e_ w20 h_ => ?_)
  obtain ⟨A21, c22, rfl, ho23, k24, ol25⟩ := h_
  refine ⟨_, rfl, ?_⟩
  have ol26 := fun i h => Nat.le_trans K.size (ol25 i h)
  replace ho6 := ho6.adds k24
  replace hb18 := k24.heap hb18 id
  replace K := K.trans (k24.any _)
  clear ol25
  refine WL.op (d := 8) (.slice A21 ((keepL mm (List.map GRow.task ((madeT l).rows))).length) c22) (k := ?_)
  refine WL.nil ?_
  refine WX.seqN ?_
  refine WC.seq ?_
  refine WC.region ?_
  refine WL.op (d := 9) (.int .i64 0) (k := ?_)
  refine WL.nil ?_
  refine WX.seqN ?_
  refine WC.seq ?_
  refine WC.seq ?_
  refine WC.region ?_
  refine WL.op (d := 10) (.int .i64 0) (k := ?_)
  refine WL.nil ?_
  refine WX.seqN ?_
  refine WC.block ?_
  refine WC.loop (ι := Int) (fun (i : Int) => [(0, .slice L l.length lc), (1, .int .i64 mode), (13, .bool true), (5, .bool true), (14, .slice L l.length lc), (15, .agg #[.slice A4 (((madeT l).rows).length) c5, .int .i64 ((madeT l).mode)]), (6, .pointer (some ⟨b11, 0, none⟩)), (16, .int .i64 mode), (17, .int .i64 mm), (7, .int .i64 mm), (18, .agg #[.slice A4 (((madeT l).rows).length) c5, .int .i64 ((madeT l).mode)]), (19, .int .i64 mm), (20, .slice A21 ((keepL mm (List.map GRow.task ((madeT l).rows))).length) c22), (8, .slice A21 ((keepL mm (List.map GRow.task ((madeT l).rows))).length) c22), (10, .int .i64 i), (9, .int .i64 ((inU mm (madeT l).rows i).length : Int))]) (fun (i : Int) (w_ : World) => (Keeps (fun _ => False) w w_) ∧ (OwAt rowC 6 53 A4 c5 ((madeT l).rows) w_) ∧ (∀ i, blk A4 = some i → w.heap.size ≤ i) ∧ (w_.heap[b11]? = some (.cells #[.slice A4 (((madeT l).rows).length) c5, .int .i64 ((madeT l).mode)] 24 (0, 0))) ∧ (OwAt taskC 5 44 A21 c22 (keepL mm (List.map GRow.task ((madeT l).rows))) w_) ∧ (∀ i, blk A21 = some i → w.heap.size ≤ i) ∧ (0 ≤ i) ∧ (i ≤ (madeT l).rows.length)) (fun (i : Int) => ((madeT l).rows.length - i).toNat) 0 ⟨(by kernel_rfl), (by kernel_rfl), (by kernel_rfl), (by kernel_rfl), (by kernel_rfl), (by kernel_rfl), (by kernel_rfl), (by kernel_rfl), (by kernel_rfl), (by kernel_rfl), (by kernel_rfl), (by kernel_rfl), (by kernel_rfl), (by kernel_rfl), (by kernel_rfl), (by kernel_rfl), trivial⟩ ⟨K, ho6, ol9, hb18, ho23, ol26, Int.le_refl 0, (by omega)⟩ ?_
  rintro i w27 ⟨K, hb28, ol29, hb30, hb31, ol32, i0, i1⟩
  have il_ := inU_len (md := mm) (i := i) (madeT l).rows
  refine WC.seq ?_
  refine WC.seq ?_
  refine WC.region ?_
  refine WL.op (d := 21) (.int .i64 i) (k := ?_)
  refine WL.op (d := 22) (.pointer (some ⟨b11, 0, none⟩)) (k := ?_)
  refine WL.load (v := .slice A4 (((madeT l).rows).length) c5) (ld1 (T := 22) (i := 0) hb30) (k := ?_)
  refine WL.op (d := 24) (.int .i64 (((madeT l).rows).length : Int)) (k := ?_)
  refine WL.op (d := 25) (.bool (decide (i < (((madeT l).rows).length : Int)))) (k := ?_)
  refine WL.nil ?_
  refine WX.seqN ?_
  refine WC.cond (b := decide (i < (((madeT l).rows).length : Int))) (ht := fun h33 => ?_) (hf := fun h33 => ?_)
  · have ph33 := of_decide_eq_true h33
    refine WC.skip ?_
    refine WX.seqN ?_
    refine WC.seq ?_
    refine WC.block ?_
    refine WC.seq ?_
    refine WC.region ?_
    refine WL.op (d := 28) (.pointer (some ⟨b11, 0, none⟩)) (k := ?_)
    refine WL.load (v := .slice A4 (((madeT l).rows).length) c5) (ld1 (T := 22) (i := 0) hb30) (k := ?_)
    refine WL.op (d := 30) (.int .i64 i) (k := ?_)
    obtain ⟨b34, o35, r36, hr37, hA38, he39⟩ := SlAt.at (hb28.sl ekRow) (i := i) (by omega) (by omega)
    refine WL.rw (t := 29) (v := .slice (some ⟨b34, o35, none⟩) (((madeT l).rows).length) c5) (congrArg (fun a => Value.slice a (((madeT l).rows).length) c5) hA38) (k := ?_)
    refine WL.idx (T := 22) (E := 53) (m := 6) (b := b34) (o := o35) (len := ((madeT l).rows).length) (cap := c5) (i := i) (kk := .i64) (d := 31) (by omega) (by omega) (k := ?_)
    refine WL.rw (t := 29) (v := .slice A4 (((madeT l).rows).length) c5) (congrArg (fun a => Value.slice a (((madeT l).rows).length) c5) (Eq.symm hA38)) (k := ?_)
    refine WL.op (d := 32) (.pointer (some ⟨b34, o35 + (i).toNat * 6, none⟩)) (k := ?_)
    refine WL.op (d := 33) (.pointer (some ⟨b34, o35 + (i).toNat * 6 + 4, none⟩)) (k := ?_)
    refine WL.load (v := .int .i64 r36.task.m) (he39.ldF (T := 3) (off := 4)) (k := ?_)
    refine WL.op (d := 35) (.int .i64 mm) (k := ?_)
    refine WL.opE (d := 36) (.int .u64 (IntKind.u64.wrap mm)) (v := .int .u64 mm) (congrArg (Value.int .u64) (IntWalk.u64_in _ (by omega))) (k := ?_)
    refine WL.bin (d := 37) (v := .int .i64 (r36.task.m / 2 ^ mm.toNat)) (shr_runV (k := .i64) (yk := .u64) (x := r36.task.m) (y := mm) (by omega) (by show _ ≤ 64; omega)) (k := ?_)
    refine WL.bin (d := 38) (v := .int .i64 (bits BinOp.and IntKind.i64 (r36.task.m / 2 ^ mm.toNat) 1)) (bits_run (by decide)) (k := ?_)
    refine WL.op (d := 39) (.bool ((bits BinOp.and IntKind.i64 (r36.task.m / 2 ^ mm.toNat) 1) == 1)) (k := ?_)
    refine WL.nil ?_
    refine WX.seqN ?_
    refine WC.cond (b := (bits BinOp.and IntKind.i64 (r36.task.m / 2 ^ mm.toNat) 1) == 1) (ht := fun h40 => ?_) (hf := fun h40 => ?_)
    · have ph40 := eq_of_beq h40
      refine WC.seq ?_
      refine WC.seq ?_
      have lt_ := in_lt i0 hr37 m0 m1 ph40
      have at_ := in_at i0 hr37 m0 m1 ph40
      refine WC.quiet (k := ?_)
      refine WQ.op (d := 40) (.int .i64 ((inU mm (madeT l).rows i).length : Int)) (k := ?_)
      refine WQ.op (d := 41) (.slice A21 ((keepL mm (List.map GRow.task ((madeT l).rows))).length) c22) (k := ?_)
      refine WQ.op (d := 42) (.int .i64 ((keepL mm (List.map GRow.task ((madeT l).rows))).length : Int)) (k := ?_)
      refine WQ.op (d := 43) (.bool (decide (((inU mm (madeT l).rows i).length : Int) ≥ ((keepL mm (List.map GRow.task ((madeT l).rows))).length : Int)))) (k := ?_)
      refine WQ.op (d := 44) (.bool (decide (((inU mm (madeT l).rows i).length : Int) ≥ ((keepL mm (List.map GRow.task ((madeT l).rows))).length : Int)))) (k := ?_)
      refine bsplit (decide (((inU mm (madeT l).rows i).length : Int) ≥ ((keepL mm (List.map GRow.task ((madeT l).rows))).length : Int))) (fun h41 => ?_) (fun h41 => ?_)
      · have ph41 := of_decide_eq_true h41
        refine WQ.rw (t := 44) (v := .bool true) (congrArg Value.bool h41) (k := ?_)
        refine WQ.skip (d := 45) (k := ?_)
        refine WQ.skip (d := 46) (k := ?_)
        refine WQ.skip (d := 47) (k := ?_)
        refine WQ.skip (d := 48) (k := ?_)
        refine WQ.skip (d := 49) (k := ?_)
        refine WQ.skip (d := 50) (k := ?_)
        refine WQ.skip (d := 51) (k := ?_)
        refine WQ.skip (d := 52) (k := ?_)
        refine WQ.skip (d := 53) (k := ?_)
        refine WQ.skip (d := 54) (k := ?_)
        refine WQ.skip (d := 55) (k := ?_)
        refine WQ.op (d := 56) (.bool true) (k := ?_)
        refine WQ.nilX (fun w42 k43 => ?_)
        replace hb28 := hb28.adds k43
        replace hb30 := k43.heap hb30 id
        replace hb31 := hb31.adds k43
        replace he39 := he39.adds k43
        replace K := K.trans (k43.any _)
        refine WX.seqN ?_
        refine WC.condT (k := ?_)
        refine WC.seq ?_
        refine WC.region ?_
        refine WL.op (d := 4) (.bool false) (k := ?_)
        refine WL.nil ?_
        refine WX.seqN ?_
        refine WC.ret ?_
        refine WX.seqR ?_
        refine WX.blockR ?_
        refine WX.seqR ?_
        refine WX.seqR ?_
        refine WX.blockR ?_
        refine WX.seqR ?_
        refine WX.ret (rs := [.tmp 4]) [.bool false] (.bool false) ⟨(by kernel_rfl), trivial⟩ (k := ?_)
        exfalso; omega
      · have ph41 := of_decide_eq_false h41
        refine WQ.rw (t := 44) (v := .bool false) (congrArg Value.bool h41) (k := ?_)
        refine WQ.op (d := 45) (.slice A21 ((keepL mm (List.map GRow.task ((madeT l).rows))).length) c22) (k := ?_)
        refine WQ.op (d := 46) (.int .i64 ((inU mm (madeT l).rows i).length : Int)) (k := ?_)
        obtain ⟨b44, o45, r46, hr47, hA48, he49⟩ := SlAt.at (hb31.sl ekTask) (i := ((inU mm (madeT l).rows i).length : Int)) (by omega) (by omega)
        refine WQ.rw (t := 45) (v := .slice (some ⟨b44, o45, none⟩) ((keepL mm (List.map GRow.task ((madeT l).rows))).length) c22) (congrArg (fun a => Value.slice a ((keepL mm (List.map GRow.task ((madeT l).rows))).length) c22) hA48) (k := ?_)
        refine WQ.idx (T := 50) (E := 44) (m := 5) (b := b44) (o := o45) (len := (keepL mm (List.map GRow.task ((madeT l).rows))).length) (cap := c22) (i := ((inU mm (madeT l).rows i).length : Int)) (kk := .i64) (d := 47) (by omega) (by omega) (k := ?_)
        refine WQ.rw (t := 45) (v := .slice A21 ((keepL mm (List.map GRow.task ((madeT l).rows))).length) c22) (congrArg (fun a => Value.slice a ((keepL mm (List.map GRow.task ((madeT l).rows))).length) c22) (Eq.symm hA48)) (k := ?_)
        refine WQ.load (v := GTask.val r46) (fun w_ k_ => (he49.adds k_).ldW (T := 44)) (k := ?_)
        refine WQ.op (d := 49) (.pointer (some ⟨b11, 0, none⟩)) (k := ?_)
        refine WQ.load (v := .slice A4 (((madeT l).rows).length) c5) (fun w_ k_ => ld1 (T := 22) (i := 0) (k_.heap hb30 id)) (k := ?_)
        refine WQ.op (d := 51) (.int .i64 i) (k := ?_)
        obtain ⟨b50, o51, r52, hr53, hA54, he55⟩ := SlAt.at (hb28.sl ekRow) (i := i) (by omega) (by omega)
        refine WQ.rw (t := 50) (v := .slice (some ⟨b50, o51, none⟩) (((madeT l).rows).length) c5) (congrArg (fun a => Value.slice a (((madeT l).rows).length) c5) hA54) (k := ?_)
        refine WQ.idx (T := 22) (E := 53) (m := 6) (b := b50) (o := o51) (len := ((madeT l).rows).length) (cap := c5) (i := i) (kk := .i64) (d := 52) (by omega) (by omega) (k := ?_)
        refine WQ.rw (t := 50) (v := .slice A4 (((madeT l).rows).length) c5) (congrArg (fun a => Value.slice a (((madeT l).rows).length) c5) (Eq.symm hA54)) (k := ?_)
        refine WQ.op (d := 53) (.pointer (some ⟨b50, o51 + (i).toNat * 6, none⟩)) (k := ?_)
        refine WQ.load (v := GTask.val r52.task) (fun w_ k_ => (he55.adds k_).ldA0 (T := 44) (k := 5) (l := (Value.cells (GTask.val r52.task)).toList)) (k := ?_)
        refine WQ.bin (d := 55) (v := .bool (!(decide (r46 = r52.task)))) (fun w_ => neqTaskV r46 r52.task w_) (k := ?_)
        refine WQ.op (d := 56) (.bool (!(decide (r46 = r52.task)))) (k := ?_)
        refine WQ.nilX (fun w56 k57 => ?_)
        replace hb28 := hb28.adds k57
        replace hb30 := k57.heap hb30 id
        replace hb31 := hb31.adds k57
        replace he39 := he39.adds k57
        replace he49 := he49.adds k57
        replace he55 := he55.adds k57
        replace K := K.trans (k57.any _)
        refine WX.seqN ?_
        refine WC.cond (b := !(decide (r46 = r52.task))) (ht := fun h58 => ?_) (hf := fun h58 => ?_)
        · have h59 : (decide (r46 = r52.task)) = false := by simpa using h58
          have ph59 := of_decide_eq_false h59
          refine WC.seq ?_
          refine WC.region ?_
          refine WL.op (d := 4) (.bool false) (k := ?_)
          refine WL.nil ?_
          refine WX.seqN ?_
          refine WC.ret ?_
          refine WX.seqR ?_
          refine WX.blockR ?_
          refine WX.seqR ?_
          refine WX.seqR ?_
          refine WX.blockR ?_
          refine WX.seqR ?_
          refine WX.ret (rs := [.tmp 4]) [.bool false] (.bool false) ⟨(by kernel_rfl), trivial⟩ (k := ?_)
          exfalso
          obtain rfl : r52 = r36 := Option.some.inj (hr53.symm.trans hr37)
          rw [show ((inU mm (madeT l).rows i).length : Int).toNat = (inU mm (madeT l).rows i).length from Int.toNat_natCast _, at_] at hr47
          exact ph59 (Option.some.inj hr47).symm
        · have h60 : (decide (r46 = r52.task)) = true := by simpa using h58
          have ph60 := of_decide_eq_true h60
          refine WC.skip ?_
          refine WX.seqN ?_
          refine WC.region ?_
          refine WL.op (d := 57) (.int .i64 ((inU mm (madeT l).rows i).length : Int)) (k := ?_)
          refine WL.opE (d := 58) (.int .i64 (IntKind.i64.wrap (((inU mm (madeT l).rows i).length : Int) + 1))) (v := .int .i64 (((inU mm (madeT l).rows i).length : Int) + 1)) (congrArg (Value.int .i64) (IntWalk.i64_in _ (by omega))) (k := ?_)
          refine WL.op (d := 9) (.int .i64 (((inU mm (madeT l).rows i).length : Int) + 1)) (k := ?_)
          refine WL.nil ?_
          refine WX.blockN ?_
          refine WX.seqN ?_
          refine WC.region ?_
          refine WL.op (d := 26) (.int .i64 i) (k := ?_)
          refine WL.opE (d := 27) (.int .i64 (IntKind.i64.wrap (i + 1))) (v := .int .i64 (i + 1)) (congrArg (Value.int .i64) (IntWalk.i64_in _ (by omega))) (k := ?_)
          refine WL.op (d := 10) (.int .i64 (i + 1)) (k := ?_)
          refine WL.nil ?_
          refine WX.rw (t := 9) (v := .int .i64 ((inU mm (madeT l).rows (i + 1)).length : Int)) (congrArg (Value.int .i64) (show ((inU mm (madeT l).rows i).length : Int) + 1 = ((inU mm (madeT l).rows (i + 1)).length : Int) from by rw [← inU_yes i0 hr37 m0 m1 ph40]; simp)) (k := ?_)
          refine WX.round (i + 1) (by show ((madeT l).rows.length - (i + 1)).toNat < ((madeT l).rows.length - i).toNat; omega) ⟨(by kernel_rfl), (by kernel_rfl), (by kernel_rfl), (by kernel_rfl), (by kernel_rfl), (by kernel_rfl), (by kernel_rfl), (by kernel_rfl), (by kernel_rfl), (by kernel_rfl), (by kernel_rfl), (by kernel_rfl), (by kernel_rfl), (by kernel_rfl), (by kernel_rfl), (by kernel_rfl), trivial⟩ ⟨K, hb28, ol29, hb30, hb31, ol32, (by omega), (by omega)⟩
    · have ph40 := ne_of_beq_false h40
      refine WC.skip ?_
      refine WX.blockN ?_
      refine WX.seqN ?_
      refine WC.region ?_
      refine WL.op (d := 26) (.int .i64 i) (k := ?_)
      refine WL.opE (d := 27) (.int .i64 (IntKind.i64.wrap (i + 1))) (v := .int .i64 (i + 1)) (congrArg (Value.int .i64) (IntWalk.i64_in _ (by omega))) (k := ?_)
      refine WL.op (d := 10) (.int .i64 (i + 1)) (k := ?_)
      refine WL.nil ?_
      refine WX.rw (t := 9) (v := .int .i64 ((inU mm (madeT l).rows (i + 1)).length : Int)) (congrArg (fun l : List GTask => Value.int .i64 (l.length : Int)) (inU_no i0 hr37 m0 m1 ph40)) (k := ?_)
      refine WX.round (i + 1) (by show ((madeT l).rows.length - (i + 1)).toNat < ((madeT l).rows.length - i).toNat; omega) ⟨(by kernel_rfl), (by kernel_rfl), (by kernel_rfl), (by kernel_rfl), (by kernel_rfl), (by kernel_rfl), (by kernel_rfl), (by kernel_rfl), (by kernel_rfl), (by kernel_rfl), (by kernel_rfl), (by kernel_rfl), (by kernel_rfl), (by kernel_rfl), (by kernel_rfl), (by kernel_rfl), trivial⟩ ⟨K, hb28, ol29, hb30, hb31, ol32, (by omega), (by omega)⟩
  · have ph33 := of_decide_eq_false h33
    refine WC.exit ?_
    refine WX.seqE ?_
    refine WX.seqE ?_
    refine WX.blockE ?_
    refine WX.seqN ?_
    refine WC.seq ?_
    refine WC.rw (t := 9) (v := .int .i64 ((keepL mm (List.map GRow.task ((madeT l).rows))).length : Int)) (congrArg (fun l : List GTask => Value.int .i64 (l.length : Int)) (inU_end (md := mm) rfl i0 (by omega))) (k := ?_)
    refine WC.region ?_
    refine WL.load (v := .agg #[.slice A4 (((madeT l).rows).length) c5, .int .i64 ((madeT l).mode)]) (ldN (T := 24) (i := 0) (m := 2) (l := [.slice A4 (((madeT l).rows).length) c5, .int .i64 ((madeT l).mode)]) hb30) (k := ?_)
    refine WL.op (d := 61) (.int .i64 mm) (k := ?_)
    refine WL.op (d := 62) (.agg #[.int .i64 4, .int .i64 0, .int .i64 0, .int .i64 0, .int .i64 0, .int .i64 0, .bool false, .int .i64 0, .int .i64 0, .int .i64 mm]) (k := ?_)
    have oc61 := SlAt.cell hb28
    refine WL.callG (d := 63) (f := 30) (args := #[.agg #[.slice A4 (((madeT l).rows).length) c5, .int .i64 ((madeT l).mode)], .agg #[.int .i64 4, .int .i64 0, .int .i64 0, .int .i64 0, .int .i64 0, .int .i64 0, .bool false, .int .i64 0, .int .i64 0, .int .i64 mm]]) (tApply_m (t := madeT l) (cp := c5) (m := mm) (hb28.sl ekRow) (by omega) (madeT_ok l) m0 m1) (k := fun e_ w62 h_ => ?_)
    obtain ⟨A63, c64, rfl, ho65, k66, ol67⟩ := h_
    refine ⟨_, rfl, ?_⟩
    have ol68 := fun i h => Nat.le_trans K.size (ol67 i h)
    replace hb28 := hb28.adds k66
    replace hb30 := k66.heap hb30 id
    replace hb31 := hb31.adds k66
    replace K := K.trans (k66.any _)
    clear ol67
    refine WL.op (d := 59) (.tuple #[.agg #[.slice A63 (((madeT l).rows).length) c64, .int .i64 mm], .int .i64 0]) (k := ?_)
    refine WL.op (d := 64) (.agg #[.slice A63 (((madeT l).rows).length) c64, .int .i64 mm]) (k := ?_)
    refine WL.op (d := 65) (.int .i64 0) (k := ?_)
    refine WL.new (d := 11) (T := 24) #[.slice none 0 0, .int .i64 0] (k := fun b69 w70 g71 hb72 k73 => ?_)
    have z74 := Nat.le_trans K.size g71
    have n75 : b11 ≠ b69 := Nat.ne_of_lt (Nat.lt_of_lt_of_le (lt_of_heap hb30) g71)
    replace hb28 := hb28.adds k73
    replace hb30 := k73.heap hb30 id
    replace hb31 := hb31.adds k73
    replace ho65 := ho65.adds k73
    replace K := K.trans (k73.any _)
    refine WL.store (v := .agg #[.slice A63 (((madeT l).rows).length) c64, .int .i64 mm]) (i := 0) (cs' := #[.slice A63 (((madeT l).rows).length) c64, .int .i64 mm]) hb72 (k := fun w76 hb77 k78 => ?_)
    replace hb28 := hb28.keeps k78 (fun i hi e => (hb28.offT hb72 (by decide)) (e ▸ hi))
    replace hb30 := k78.heap hb30 n75
    replace hb31 := hb31.keeps k78 (fun i hi e => (hb31.offT hb72 (by decide)) (e ▸ hi))
    replace ho65 := ho65.keeps k78 (fun i hi e => (ho65.offT hb72 (by decide)) (e ▸ hi))
    replace K := K.trans' k78 (fun i hi e => absurd (e ▸ hi) (Nat.not_lt.2 z74))
    clear hb72
    refine WL.op (d := 12) (.int .i64 0) (k := ?_)
    refine WL.nil ?_
    refine WX.seqN ?_
    refine WC.seq ?_
    refine WC.region ?_
    refine WL.op (d := 66) (.pointer (some ⟨b11, 1, none⟩)) (k := ?_)
    refine WL.load (v := .int .i64 ((madeT l).mode)) (ld1 (T := 3) (i := 1) hb30) (k := ?_)
    refine WL.op (d := 68) (.pointer (some ⟨b69, 1, none⟩)) (k := ?_)
    refine WL.store (v := .int .i64 ((madeT l).mode)) (i := 1) (cs' := #[.slice A63 (((madeT l).rows).length) c64, .int .i64 ((madeT l).mode)]) hb77 (k := fun w79 hb80 k81 => ?_)
    replace hb28 := hb28.keeps k81 (fun i hi e => (hb28.offT hb77 (by decide)) (e ▸ hi))
    replace hb30 := k81.heap hb30 n75
    replace hb31 := hb31.keeps k81 (fun i hi e => (hb31.offT hb77 (by decide)) (e ▸ hi))
    replace ho65 := ho65.keeps k81 (fun i hi e => (ho65.offT hb77 (by decide)) (e ▸ hi))
    replace K := K.trans' k81 (fun i hi e => absurd (e ▸ hi) (Nat.not_lt.2 z74))
    clear hb77
    refine WL.nil ?_
    refine WX.seqN ?_
    refine WC.seq ?_
    refine WC.region ?_
    refine WL.op (d := 69) (.bool true) (k := ?_)
    refine WL.op (d := 70) (.bool true) (k := ?_)
    refine WL.op (d := 71) (.int .i64 ((keepL mm (List.map GRow.task ((madeT l).rows))).length : Int)) (k := ?_)
    refine WL.op (d := 72) (.slice A21 ((keepL mm (List.map GRow.task ((madeT l).rows))).length) c22) (k := ?_)
    refine WL.op (d := 73) (.int .i64 ((keepL mm (List.map GRow.task ((madeT l).rows))).length : Int)) (k := ?_)
    refine WL.opE (d := 74) (.bool (((keepL mm (List.map GRow.task ((madeT l).rows))).length : Int) == ((keepL mm (List.map GRow.task ((madeT l).rows))).length : Int))) (v := .bool true) (congrArg Value.bool (beq_self_eq_true _)) (k := ?_)
    refine WL.op (d := 75) (.bool true) (k := ?_)
    refine WL.op (d := 76) (.bool true) (k := ?_)
    refine WL.op (d := 77) (.int .i64 0) (k := ?_)
    refine WL.op (d := 78) (.bool true) (k := ?_)
    refine WL.op (d := 79) (.bool true) (k := ?_)
    refine WL.op (d := 80) (.bool true) (k := ?_)
    refine WL.load (v := .agg #[.slice A63 (((madeT l).rows).length) c64, .int .i64 ((madeT l).mode)]) (ldN (T := 24) (i := 0) (m := 2) (l := [.slice A63 (((madeT l).rows).length) c64, .int .i64 ((madeT l).mode)]) hb80) (k := ?_)
    refine WL.load (v := .agg #[.slice A4 (((madeT l).rows).length) c5, .int .i64 ((madeT l).mode)]) (ldN (T := 24) (i := 0) (m := 2) (l := [.slice A4 (((madeT l).rows).length) c5, .int .i64 ((madeT l).mode)]) hb30) (k := ?_)
    refine WL.callG (d := 83) (f := 21) (args := #[.agg #[.slice A63 (((madeT l).rows).length) c64, .int .i64 ((madeT l).mode)], .agg #[.slice A4 (((madeT l).rows).length) c5, .int .i64 ((madeT l).mode)]]) (tSame_r (cp := c64) (cq := c5) (ma := (madeT l).mode) (ho65.sl ekRow) (hb28.sl ekRow) (by first | omega | (simp; omega))) (k := fun e_ w82 h_ => ⟨.bool true, h_.1, ?_⟩)
    have k83 := h_.2; clear h_
    replace hb28 := hb28.adds k83
    replace hb30 := k83.heap hb30 id
    replace hb31 := hb31.adds k83
    replace ho65 := ho65.adds k83
    replace hb80 := k83.heap hb80 id
    replace K := K.trans (k83.any _)
    refine WL.op (d := 84) (.bool true) (k := ?_)
    refine WL.op (d := 4) (.bool true) (k := ?_)
    refine WL.nil ?_
    refine WX.seqN ?_
    refine WC.ret ?_
    refine WX.ret (rs := [.tmp 4]) [.bool true] (.bool true) ⟨(by kernel_rfl), trivial⟩ (k := ?_)
    exact ⟨rfl, K⟩

end Go.Proofs.Ytpkcohhfkeinmaa
