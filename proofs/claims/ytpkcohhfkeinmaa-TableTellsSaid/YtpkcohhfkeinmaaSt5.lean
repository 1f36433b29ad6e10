/- Tables: bytes; tables by ops. -/
import Derived.Test.YtpkcohhfkeinmaaSt4
namespace Go.Proofs.Ytpkcohhfkeinmaa
open Go.RowKit
set_option linter.unusedVariables false
set_option linter.unusedSimpArgs false

set_option maxRecDepth 100000 in
set_option maxHeartbeats 4000000 in
theorem tBytes_c {A : Option Addr} {cp : Nat} {rows : List GRow} {md : Int} {w : World} (hA : SlAt rowC 6 53 A rows w) (hn : rows.length ≤ 1000000000) : Calls Try.prog 34 #[.agg #[.slice A rows.length cp, .int .i64 md]] w fun e w' => e = .returned (.tuple #[.string ⟨(bytesT ⟨rows, md⟩).toArray⟩, .int .i64 (bytesE ⟨rows, md⟩)]) ∧ Adds w w' := by
  have K : Keeps (fun _ => False) w w := Keeps.refl _ w
  refine Calls.start Try.func34 rfl (by kernel_rfl) ?_
  refine WC.seq ?_
  refine WC.region ?_
  refine WL.new (d := 1) (T := 24) #[.slice A rows.length cp, .int .i64 md] (k := fun b1 w2 g3 hb4 k5 => ?_)
  have z6 := Nat.le_trans K.size g3
  replace K := K.trans (k5.any _)
  refine WL.op (d := 2) (.string ⟨#[]⟩) (k := ?_)
  refine WL.op (d := 3) (.int .i64 0) (k := ?_)
  refine WL.nil ?_
  refine WX.seqN ?_
  refine WC.seq ?_
  refine WC.seq ?_
  refine WC.region ?_
  refine WL.load (v := .agg #[.slice A rows.length cp, .int .i64 md]) (ldN (T := 24) (i := 0) (m := 2) (l := [.slice A rows.length cp, .int .i64 md]) hb4) (k := ?_)
  refine WL.callG (d := 9) (f := 36) (args := #[.agg #[.slice A rows.length cp, .int .i64 md]]) (tCheck_c (cp := cp) (hA.adds K) (by first | omega | simp | (simp; omega))) (k := fun e_ w7 h_ => ⟨.bool (tokB (⟨rows, md⟩ : GTable)), h_.1, ?_⟩)
  have k8 := h_.2; clear h_
  replace hb4 := k8.heap hb4 id
  replace K := K.trans (k8.any _)
  refine WL.op (d := 10) (.bool (!(tokB (⟨rows, md⟩ : GTable)))) (k := ?_)
  refine WL.nil ?_
  refine WX.seqN ?_
  refine WC.cond (b := !(tokB (⟨rows, md⟩ : GTable))) (ht := fun h9 => ?_) (hf := fun h9 => ?_)
  · have h10 : (tokB (⟨rows, md⟩ : GTable)) = false := by simpa using h9
    have ph10 := tok_f h10
    refine WC.seq ?_
    refine WC.region ?_
    refine WL.op (d := 2) (.string ⟨#[]⟩) (k := ?_)
    refine WL.op (d := 3) (.int .i64 1) (k := ?_)
    refine WL.nil ?_
    refine WX.seqN ?_
    refine WC.ret ?_
    refine WX.seqR ?_
    refine WX.ret (rs := [.tmp 2, .tmp 3]) [.string ⟨#[]⟩, .int .i64 1] (.tuple #[.string ⟨#[]⟩, .int .i64 1]) ⟨(by kernel_rfl), (by kernel_rfl), trivial⟩ (k := ?_)
    exact ⟨by simp [bytesT, bytesE, h10], K⟩
  · have h11 : (tokB (⟨rows, md⟩ : GTable)) = true := by simpa using h9
    have ph11 := tok_t h11
    refine WC.skip ?_
    refine WX.seqN ?_
    refine WC.seq ?_
    refine WC.region ?_
    refine WL.op (d := 11) (.agg #[.pointer none, .slice none 0 0]) (k := ?_)
    refine WL.new (d := 12) (T := 102) #[.pointer none, .slice none 0 0] (k := fun b12 w13 g14 hb15 k16 => ?_)
    have z17 := Nat.le_trans K.size g14
    have n18 : b1 ≠ b12 := Nat.ne_of_lt (Nat.lt_of_lt_of_le (lt_of_heap hb4) g14)
    replace hb4 := k16.heap hb4 id
    replace K := K.trans (k16.any _)
    have hw19 := BuR.newW hb15
    have lk20 : WLink w none none := .inl rfl
    clear hb15
    refine WL.op (d := 4) (.pointer (some ⟨b12, 0, none⟩)) (k := ?_)
    refine WL.nil ?_
    refine WX.seqN ?_
    refine WC.seq ?_
    have ok_ := (ok_iff.1 ph11).2.2; simp only at ok_; obtain ⟨_, _, _⟩ := ok_; have lm_ := encNum_len md.toNat (by omega); have ln_ := encNum_len (rows.length : Int).toNat (by omega)
    refine WC.mixed (fun k => k = b12 ∨ none = some k) 8 (k := fun w21 k22 => ?_)
    replace hb4 := k22.heap hb4 id
    replace hw19 := hw19.movA k22
    replace K := K.trans (k22.any _)
    have KC := Keeps.refl (fun k => k = b12 ∨ none = some k) w21
    have KCl : WLink w21 none none := .inl rfl
    have bh23 := hb4
    have Kb := K
    refine WA.quiet2 0 (d := 13) (.pointer (some ⟨b12, 0, none⟩)) KC (hi := rfl) (k := ?_)
    refine WA.quiet2 1 (d := 14) (.pointer (some ⟨b1, 1, none⟩)) KC (hi := rfl) (k := ?_)
    refine WA.quietR2 2 (d := 15) (.int .i64 md) KC (exec_load (fun w_ k_ => ld1 (T := 3) (i := 1) (k_.heap bh23 (not_or.2 ⟨n18, hw19.offT hb4 (by decide)⟩)))) (hi := rfl) (k := ?_)
    refine WA.quiet2 4 (d := 17) (.pointer (some ⟨b1, 0, none⟩)) KC (hi := rfl) (k := ?_)
    refine WA.quietR2 5 (d := 18) (.slice A rows.length cp) KC (exec_load (fun w_ k_ => ld1 (T := 22) (i := 0) (k_.heap bh23 (not_or.2 ⟨n18, hw19.offT hb4 (by decide)⟩)))) (hi := rfl) (k := ?_)
    refine WA.quiet2 6 (d := 19) (.int .i64 (rows.length : Int)) KC (hi := rfl) (k := ?_)
    refine WA.step 3 (hi := rfl) (k := ?_)
    refine WL.callG (d := 16) (f := 75) (args := #[.pointer (some ⟨b12, 0, none⟩), .int .i64 md]) (wInt_r _ _ _ md (by omega) _ hw19 (by (try simp only [List.length_append, List.length_nil]); omega)) (k := fun e_ w24 h_ => ?_)
    obtain ⟨rfl, r25, hw26, n27, k28⟩ := h_
    refine ⟨_, rfl, ?_⟩
    have lk29 := lk20.step K n27
    have KCm := KCl.step KC n27
    replace hb4 := k28.heap hb4 (not_or.2 ⟨n18, hw19.offT hb4 (by decide)⟩)
    replace K := K.trans' k28 (WLink.own lk20 z17 _)
    replace KC := KC.trans' k28 (fun i hi e => e)
    replace KCl := KCm
    clear hw19 n27 lk20
    refine WL.nil ?_
    refine WX.nxt KC ?_
    refine WA.step 7 (hi := rfl) (k := ?_)
    refine WL.callG (d := 20) (f := 75) (args := #[.pointer (some ⟨b12, 0, none⟩), .int .i64 (rows.length : Int)]) (wInt_r _ _ _ (rows.length : Int) (by omega) _ hw26 (by (try simp only [List.length_append, List.length_nil]); omega)) (k := fun e_ w30 h_ => ?_)
    obtain ⟨rfl, r31, hw32, n33, k34⟩ := h_
    refine ⟨_, rfl, ?_⟩
    have lk35 := lk29.step K n33
    have KCm := KCl.step KC n33
    replace hb4 := k34.heap hb4 (not_or.2 ⟨n18, hw26.offT hb4 (by decide)⟩)
    replace K := K.trans' k34 (WLink.own lk29 z17 _)
    replace KC := KC.trans' k34 (fun i hi e => WLink.par KCl i hi e)
    replace KCl := KCm
    clear hw26 n33 lk29
    refine WL.nil ?_
    refine WX.nxt KC ?_
    refine WA.done (k := ?_)
    clear KC
    refine WX.seqN ?_
    refine WC.seq ?_
    refine WC.seq ?_
    refine WC.region ?_
    refine WL.op (d := 21) (.pointer (some ⟨b1, 0, none⟩)) (k := ?_)
    refine WL.load (v := .slice A rows.length cp) (ld1 (T := 22) (i := 0) hb4) (k := ?_)
    refine WL.op (d := 23) (.int .i64 (rows.length : Int)) (k := ?_)
    refine WL.op (d := 24) (.int .i64 0) (k := ?_)
    refine WL.nil ?_
    refine WX.seqN ?_
    refine WC.block ?_
    have eu_ := encU_zero rows md
    rw [show [] ++ encNum (Int.toNat md) ++ encNum (Int.toNat (rows.length : Int)) = encU rows md 0 from by rw [← eu_]; simp] at hw32
    refine WC.loop (ι := Int × (Option Nat)) (fun (⟨i, ro⟩ : Int × (Option Nat)) => [(0, .agg #[.slice A rows.length cp, .int .i64 md]), (1, .pointer (some ⟨b1, 0, none⟩)), (2, .string ⟨#[]⟩), (3, .int .i64 0), (8, .agg #[.slice A rows.length cp, .int .i64 md]), (9, .bool (tokB (⟨rows, md⟩ : GTable))), (10, .bool (!(tokB (⟨rows, md⟩ : GTable)))), (11, .agg #[.pointer none, .slice none 0 0]), (12, .pointer (some ⟨b12, 0, none⟩)), (4, .pointer (some ⟨b12, 0, none⟩)), (13, .pointer (some ⟨b12, 0, none⟩)), (14, .pointer (some ⟨b1, 1, none⟩)), (15, .int .i64 md), (17, .pointer (some ⟨b1, 0, none⟩)), (18, .slice A rows.length cp), (19, .int .i64 (rows.length : Int)), (16, .pointer (some ⟨b12, 0, none⟩)), (21, .pointer (some ⟨b1, 0, none⟩)), (22, .slice A rows.length cp), (23, .int .i64 (rows.length : Int)), (24, .int .i64 i)]) (fun (⟨i, ro⟩ : Int × (Option Nat)) (w_ : World) => (Keeps (fun _ => False) w w_) ∧ (w_.heap[b1]? = some (.cells #[.slice A rows.length cp, .int .i64 md] 24 (0, 0))) ∧ (BuR 102 0 b12 ro (encU rows md i) w_) ∧ (WLink w none ro) ∧ (0 ≤ i) ∧ (i ≤ rows.length)) (fun (⟨i, ro⟩ : Int × (Option Nat)) => (rows.length - i).toNat) (0, r31) ⟨(by kernel_rfl), (by kernel_rfl), (by kernel_rfl), (by kernel_rfl), (by kernel_rfl), (by kernel_rfl), (by kernel_rfl), (by kernel_rfl), (by kernel_rfl), (by kernel_rfl), (by kernel_rfl), (by kernel_rfl), (by kernel_rfl), (by kernel_rfl), (by kernel_rfl), (by kernel_rfl), (by kernel_rfl), (by kernel_rfl), (by kernel_rfl), (by kernel_rfl), (by kernel_rfl), trivial⟩ ⟨K, hb4, hw32, lk35, Int.le_refl 0, (by omega)⟩ ?_
    rintro ⟨i, ro⟩ w36 ⟨K, hb37, hb38, lk39, i0, i1⟩
    have lu_ := encU_len ph11 i
    refine WC.seq ?_
    refine WC.region ?_
    refine WL.op (d := 25) (.bool (decide (i < (rows.length : Int)))) (k := ?_)
    refine WL.nil ?_
    refine WX.seqN ?_
    refine WC.seq ?_
    refine WC.cond (b := decide (i < (rows.length : Int))) (ht := fun h40 => ?_) (hf := fun h40 => ?_)
    · have ph40 := of_decide_eq_true h40
      refine WC.skip ?_
      refine WX.seqN ?_
      refine WC.seq ?_
      refine WC.block ?_
      refine WC.seq ?_
      refine WC.region ?_
      obtain ⟨b41, o42, r43, hr44, hA45, he46⟩ := SlAt.at hA (i := i) (by omega) (by omega)
      refine WL.rw (t := 22) (v := .slice (some ⟨b41, o42, none⟩) rows.length cp) (congrArg (fun a => Value.slice a rows.length cp) hA45) (k := ?_)
      have rrr43 := row_rng ph11 hr44
      have rlr43 := row_len r43 rrr43
      obtain ⟨_, _, _, _, _, _⟩ := rlr43
      refine WL.idx (T := 22) (E := 53) (m := 6) (b := b41) (o := o42) (len := rows.length) (cap := cp) (i := i) (kk := .i64) (d := 26) (by omega) (by omega) (k := ?_)
      refine WL.rw (t := 22) (v := .slice A rows.length cp) (congrArg (fun a => Value.slice a rows.length cp) (Eq.symm hA45)) (k := ?_)
      refine WL.load (v := GRow.val r43) ((he46.adds K).ldW (T := 53)) (k := ?_)
      refine WL.new (d := 6) (T := 53) #[.int .i64 0, .int .i64 0, .int .i64 0, .int .i64 0, .int .i64 0, .bool false] (k := fun b47 w48 g49 hb50 k51 => ?_)
      have z52 := Nat.le_trans K.size g49
      have n53 : b1 ≠ b47 := Nat.ne_of_lt (Nat.lt_of_lt_of_le (lt_of_heap hb37) g49)
      have n54 : b12 ≠ b47 := Nat.ne_of_lt (Nat.lt_of_lt_of_le hb38.ltb g49)
      replace hb37 := k51.heap hb37 id
      replace hb38 := hb38.movA k51
      replace K := K.trans (k51.any _)
      refine WL.store (v := GRow.val r43) (i := 0) (cs' := (Value.cells (GRow.val r43))) hb50 (k := fun w55 hb56 k57 => ?_)
      replace hb37 := k57.heap hb37 n53
      replace hb38 := hb38.mov1 k57 n54 (hb38.offT hb50 (by decide))
      replace K := K.trans' k57 (fun i hi e => absurd (e ▸ hi) (Nat.not_lt.2 z52))
      clear hb50
      refine WL.nil ?_
      refine WX.seqN ?_
      refine WC.seq ?_
      refine WC.region ?_
      refine WL.op (d := 28) (.pointer (some ⟨b47, 0, none⟩)) (k := ?_)
      refine WL.load (v := GTask.val r43.task) (ldN (T := 44) (i := 0) (m := 5) (l := (Value.cells (GTask.val r43.task)).toList) hb56) (k := ?_)
      refine WL.new (d := 7) (T := 44) #[.int .i64 0, .int .i64 0, .int .i64 0, .int .i64 0, .int .i64 0] (k := fun b58 w59 g60 hb61 k62 => ?_)
      have z63 := Nat.le_trans K.size g60
      have n64 : b1 ≠ b58 := Nat.ne_of_lt (Nat.lt_of_lt_of_le (lt_of_heap hb37) g60)
      have n65 : b12 ≠ b58 := Nat.ne_of_lt (Nat.lt_of_lt_of_le hb38.ltb g60)
      have n66 : b47 ≠ b58 := Nat.ne_of_lt (Nat.lt_of_lt_of_le (lt_of_heap hb56) g60)
      replace hb37 := k62.heap hb37 id
      replace hb38 := hb38.movA k62
      replace hb56 := k62.heap hb56 id
      replace K := K.trans (k62.any _)
      refine WL.store (v := GTask.val r43.task) (i := 0) (cs' := (Value.cells (GTask.val r43.task))) hb61 (k := fun w67 hb68 k69 => ?_)
      replace hb37 := k69.heap hb37 n64
      replace hb38 := hb38.mov1 k69 n65 (hb38.offT hb61 (by decide))
      replace hb56 := k69.heap hb56 n66
      replace K := K.trans' k69 (fun i hi e => absurd (e ▸ hi) (Nat.not_lt.2 z63))
      clear hb61
      refine WL.nil ?_
      refine WX.seqN ?_
      refine WC.mixed (fun k => k = b12 ∨ ro = some k) 22 (k := fun w70 k71 => ?_)
      replace hb37 := k71.heap hb37 id
      replace hb38 := hb38.movA k71
      replace hb56 := k71.heap hb56 id
      replace hb68 := k71.heap hb68 id
      replace K := K.trans (k71.any _)
      have KC := Keeps.refl (fun k => k = b12 ∨ ro = some k) w70
      have KCl : WLink w70 ro ro := .inl rfl
      have bh72 := hb37
      have bh73 := hb56
      have bh74 := hb68
      have Kb := K
      refine WA.quiet2 0 (d := 30) (.pointer (some ⟨b12, 0, none⟩)) KC (hi := rfl) (k := ?_)
      refine WA.quiet2 1 (d := 31) (.pointer (some ⟨b58, 0, none⟩)) KC (hi := rfl) (k := ?_)
      refine WA.quietR2 2 (d := 32) (.int .i64 r43.task.id) KC (exec_load (fun w_ k_ => ld1 (T := 3) (i := 0) (k_.heap bh74 (not_or.2 ⟨Ne.symm n65, hb38.offT hb68 (by decide)⟩)))) (hi := rfl) (k := ?_)
      refine WA.quiet2 4 (d := 34) (.pointer (some ⟨b58, 1, none⟩)) KC (hi := rfl) (k := ?_)
      refine WA.quietR2 5 (d := 35) (.int .i64 r43.task.c) KC (exec_load (fun w_ k_ => ld1 (T := 2) (i := 1) (k_.heap bh74 (not_or.2 ⟨Ne.symm n65, hb38.offT hb68 (by decide)⟩)))) (hi := rfl) (k := ?_)
      refine WA.quiet2 6 (d := 36) (.int .u64 (IntKind.u64.wrap r43.task.c)) KC (hi := rfl) (k := ?_)
      refine WA.rw (t := 36) (v := .int .u64 r43.task.c) (congrArg (Value.int .u64) (IntWalk.u64_in _ (by omega))) (k := ?_)
      refine WA.quiet2 8 (d := 38) (.pointer (some ⟨b58, 2, none⟩)) KC (hi := rfl) (k := ?_)
      refine WA.quietR2 9 (d := 39) (.int .i64 r43.task.d) KC (exec_load (fun w_ k_ => ld1 (T := 2) (i := 2) (k_.heap bh74 (not_or.2 ⟨Ne.symm n65, hb38.offT hb68 (by decide)⟩)))) (hi := rfl) (k := ?_)
      refine WA.quiet2 10 (d := 40) (.int .u64 (IntKind.u64.wrap r43.task.d)) KC (hi := rfl) (k := ?_)
      refine WA.rw (t := 40) (v := .int .u64 r43.task.d) (congrArg (Value.int .u64) (IntWalk.u64_in _ (by omega))) (k := ?_)
      refine WA.quiet2 12 (d := 42) (.pointer (some ⟨b58, 3, none⟩)) KC (hi := rfl) (k := ?_)
      refine WA.quietR2 13 (d := 43) (.int .i64 r43.task.t) KC (exec_load (fun w_ k_ => ld1 (T := 2) (i := 3) (k_.heap bh74 (not_or.2 ⟨Ne.symm n65, hb38.offT hb68 (by decide)⟩)))) (hi := rfl) (k := ?_)
      refine WA.quiet2 14 (d := 44) (.int .u64 (IntKind.u64.wrap r43.task.t)) KC (hi := rfl) (k := ?_)
      refine WA.rw (t := 44) (v := .int .u64 r43.task.t) (congrArg (Value.int .u64) (IntWalk.u64_in _ (by omega))) (k := ?_)
      refine WA.quiet2 16 (d := 46) (.pointer (some ⟨b58, 4, none⟩)) KC (hi := rfl) (k := ?_)
      refine WA.quietR2 17 (d := 47) (.int .i64 r43.task.m) KC (exec_load (fun w_ k_ => ld1 (T := 3) (i := 4) (k_.heap bh74 (not_or.2 ⟨Ne.symm n65, hb38.offT hb68 (by decide)⟩)))) (hi := rfl) (k := ?_)
      refine WA.quiet2 19 (d := 49) (.pointer (some ⟨b47, 5, none⟩)) KC (hi := rfl) (k := ?_)
      refine WA.quietR2 20 (d := 50) (.bool r43.sv) KC (exec_load (fun w_ k_ => ld1 (T := 4) (i := 5) (k_.heap bh73 (not_or.2 ⟨Ne.symm n54, hb38.offT hb56 (by decide)⟩)))) (hi := rfl) (k := ?_)
      refine WA.step 3 (hi := rfl) (k := ?_)
      refine WL.callG (d := 33) (f := 75) (args := #[.pointer (some ⟨b12, 0, none⟩), .int .i64 r43.task.id]) (wInt_r _ _ _ r43.task.id (by omega) _ hb38 (by (try simp only [List.length_append, List.length_nil]); omega)) (k := fun e_ w75 h_ => ?_)
      obtain ⟨rfl, r76, hw77, n78, k79⟩ := h_
      refine ⟨_, rfl, ?_⟩
      have lk80 := lk39.step K n78
      have KCm := KCl.step KC n78
      replace hb37 := k79.heap hb37 (not_or.2 ⟨n18, hb38.offT hb37 (by decide)⟩)
      replace hb56 := k79.heap hb56 (not_or.2 ⟨Ne.symm n54, hb38.offT hb56 (by decide)⟩)
      replace hb68 := k79.heap hb68 (not_or.2 ⟨Ne.symm n65, hb38.offT hb68 (by decide)⟩)
      replace K := K.trans' k79 (WLink.own lk39 z17 _)
      replace KC := KC.trans' k79 (fun i hi e => e)
      replace KCl := KCm
      clear hb38 n78 lk39
      refine WL.nil ?_
      refine WX.nxt KC ?_
      refine WA.step 7 (hi := rfl) (k := ?_)
      refine WL.callG (d := 37) (f := 76) (args := #[.pointer (some ⟨b12, 0, none⟩), .int .u64 r43.task.c]) (wNum_r _ _ _ (Int.toNat r43.task.c) r43.task.c (by omega) (by omega) _ hw77 (by (try simp only [List.length_append, List.length_nil]); omega)) (k := fun e_ w81 h_ => ?_)
      obtain ⟨rfl, r82, hw83, n84, k85⟩ := h_
      refine ⟨_, rfl, ?_⟩
      have lk86 := lk80.step K n84
      have KCm := KCl.step KC n84
      replace hb37 := k85.heap hb37 (not_or.2 ⟨n18, hw77.offT hb37 (by decide)⟩)
      replace hb56 := k85.heap hb56 (not_or.2 ⟨Ne.symm n54, hw77.offT hb56 (by decide)⟩)
      replace hb68 := k85.heap hb68 (not_or.2 ⟨Ne.symm n65, hw77.offT hb68 (by decide)⟩)
      replace K := K.trans' k85 (WLink.own lk80 z17 _)
      replace KC := KC.trans' k85 (fun i hi e => WLink.par KCl i hi e)
      replace KCl := KCm
      clear hw77 n84 lk80
      refine WL.nil ?_
      refine WX.nxt KC ?_
      refine WA.step 11 (hi := rfl) (k := ?_)
      refine WL.callG (d := 41) (f := 76) (args := #[.pointer (some ⟨b12, 0, none⟩), .int .u64 r43.task.d]) (wNum_r _ _ _ (Int.toNat r43.task.d) r43.task.d (by omega) (by omega) _ hw83 (by (try simp only [List.length_append, List.length_nil]); omega)) (k := fun e_ w87 h_ => ?_)
      obtain ⟨rfl, r88, hw89, n90, k91⟩ := h_
      refine ⟨_, rfl, ?_⟩
      have lk92 := lk86.step K n90
      have KCm := KCl.step KC n90
      replace hb37 := k91.heap hb37 (not_or.2 ⟨n18, hw83.offT hb37 (by decide)⟩)
      replace hb56 := k91.heap hb56 (not_or.2 ⟨Ne.symm n54, hw83.offT hb56 (by decide)⟩)
      replace hb68 := k91.heap hb68 (not_or.2 ⟨Ne.symm n65, hw83.offT hb68 (by decide)⟩)
      replace K := K.trans' k91 (WLink.own lk86 z17 _)
      replace KC := KC.trans' k91 (fun i hi e => WLink.par KCl i hi e)
      replace KCl := KCm
      clear hw83 n90 lk86
      refine WL.nil ?_
      refine WX.nxt KC ?_
      refine WA.step 15 (hi := rfl) (k := ?_)
      refine WL.callG (d := 45) (f := 76) (args := #[.pointer (some ⟨b12, 0, none⟩), .int .u64 r43.task.t]) (wNum_r _ _ _ (Int.toNat r43.task.t) r43.task.t (by omega) (by omega) _ hw89 (by (try simp only [List.length_append, List.length_nil]); omega)) (k := fun e_ w93 h_ => ?_)
      obtain ⟨rfl, r94, hw95, n96, k97⟩ := h_
      refine ⟨_, rfl, ?_⟩
      have lk98 := lk92.step K n96
      have KCm := KCl.step KC n96
      replace hb37 := k97.heap hb37 (not_or.2 ⟨n18, hw89.offT hb37 (by decide)⟩)
      replace hb56 := k97.heap hb56 (not_or.2 ⟨Ne.symm n54, hw89.offT hb56 (by decide)⟩)
      replace hb68 := k97.heap hb68 (not_or.2 ⟨Ne.symm n65, hw89.offT hb68 (by decide)⟩)
      replace K := K.trans' k97 (WLink.own lk92 z17 _)
      replace KC := KC.trans' k97 (fun i hi e => WLink.par KCl i hi e)
      replace KCl := KCm
      clear hw89 n96 lk92
      refine WL.nil ?_
      refine WX.nxt KC ?_
      refine WA.step 18 (hi := rfl) (k := ?_)
      refine WL.callG (d := 48) (f := 75) (args := #[.pointer (some ⟨b12, 0, none⟩), .int .i64 r43.task.m]) (wInt_r _ _ _ r43.task.m (by omega) _ hw95 (by (try simp only [List.length_append, List.length_nil]); omega)) (k := fun e_ w99 h_ => ?_)
      obtain ⟨rfl, r100, hw101, n102, k103⟩ := h_
      refine ⟨_, rfl, ?_⟩
      have lk104 := lk98.step K n102
      have KCm := KCl.step KC n102
      replace hb37 := k103.heap hb37 (not_or.2 ⟨n18, hw95.offT hb37 (by decide)⟩)
      replace hb56 := k103.heap hb56 (not_or.2 ⟨Ne.symm n54, hw95.offT hb56 (by decide)⟩)
      replace hb68 := k103.heap hb68 (not_or.2 ⟨Ne.symm n65, hw95.offT hb68 (by decide)⟩)
      replace K := K.trans' k103 (WLink.own lk98 z17 _)
      replace KC := KC.trans' k103 (fun i hi e => WLink.par KCl i hi e)
      replace KCl := KCm
      clear hw95 n102 lk98
      refine WL.nil ?_
      refine WX.nxt KC ?_
      refine WA.step 21 (hi := rfl) (k := ?_)
      refine WL.callG (d := 51) (f := 77) (args := #[.pointer (some ⟨b12, 0, none⟩), .bool r43.sv]) (wFlag_r _ _ _ r43.sv _ hw101 (by (try simp only [List.length_append, List.length_nil]); omega)) (k := fun e_ w105 h_ => ?_)
      obtain ⟨rfl, r106, hw107, n108, k109⟩ := h_
      refine ⟨_, rfl, ?_⟩
      have lk110 := lk104.step K n108
      have KCm := KCl.step KC n108
      replace hb37 := k109.heap hb37 (not_or.2 ⟨n18, hw101.offT hb37 (by decide)⟩)
      replace hb56 := k109.heap hb56 (not_or.2 ⟨Ne.symm n54, hw101.offT hb56 (by decide)⟩)
      replace hb68 := k109.heap hb68 (not_or.2 ⟨Ne.symm n65, hw101.offT hb68 (by decide)⟩)
      replace K := K.trans' k109 (WLink.own lk104 z17 _)
      replace KC := KC.trans' k109 (fun i hi e => WLink.par KCl i hi e)
      replace KCl := KCm
      clear hw101 n108 lk104
      refine WL.nil ?_
      refine WX.nxt KC ?_
      refine WA.done (k := ?_)
      clear KC
      refine WX.blockN ?_
      refine WX.seqN ?_
      refine WC.region ?_
      refine WL.opE (d := 52) (.int .i64 (IntKind.i64.wrap (i + 1))) (v := .int .i64 (i + 1)) (congrArg (Value.int .i64) (IntWalk.i64_in _ (by omega))) (k := ?_)
      refine WL.op (d := 24) (.int .i64 (i + 1)) (k := ?_)
      refine WL.nil ?_
      have e111 : encU rows md i ++ encNum (Int.toNat r43.task.id) ++ encNum (Int.toNat r43.task.c) ++ encNum (Int.toNat r43.task.d) ++ encNum (Int.toNat r43.task.t) ++ encNum (Int.toNat r43.task.m) ++ encFlag r43.sv = encU rows md (i + 1) := encU_row i0 hr44
      rw [e111] at hw107
      refine WX.round (i + 1, r106) (by show (rows.length - (i + 1)).toNat < (rows.length - i).toNat; omega) ⟨(by kernel_rfl), (by kernel_rfl), (by kernel_rfl), (by kernel_rfl), (by kernel_rfl), (by kernel_rfl), (by kernel_rfl), (by kernel_rfl), (by kernel_rfl), (by kernel_rfl), (by kernel_rfl), (by kernel_rfl), (by kernel_rfl), (by kernel_rfl), (by kernel_rfl), (by kernel_rfl), (by kernel_rfl), (by kernel_rfl), (by kernel_rfl), (by kernel_rfl), (by kernel_rfl), trivial⟩ ⟨K, hb37, hw107, lk110, (by omega), (by omega)⟩
    · have ph40 := of_decide_eq_false h40
      refine WC.exit ?_
      refine WX.seqE ?_
      refine WX.seqE ?_
      refine WX.blockE ?_
      refine WX.seqN ?_
      refine WC.seq ?_
      refine WC.region ?_
      refine WL.op (d := 53) (.pointer (some ⟨b12, 0, none⟩)) (k := ?_)
      refine WL.callG (d := 54) (f := 78) (args := #[.pointer (some ⟨b12, 0, none⟩)]) (wString_s _ _ _ _ hb38 (by (try simp only [List.length_append, List.length_nil]); omega)) (k := fun e_ w112 h_ => ?_)
      obtain ⟨rfl, r113, hw114, n115, k116⟩ := h_
      refine ⟨_, rfl, ?_⟩
      have lk117 := lk39.step K n115
      replace hb37 := k116.heap hb37 (not_or.2 ⟨n18, hb38.offT hb37 (by decide)⟩)
      replace K := K.trans' k116 (WLink.own lk39 z17 _)
      clear hb38 n115 lk39
      refine WL.op (d := 2) (.string ⟨(encU rows md i).toArray⟩) (k := ?_)
      refine WL.op (d := 3) (.int .i64 0) (k := ?_)
      refine WL.nil ?_
      refine WX.seqN ?_
      refine WC.ret ?_
      refine WX.ret (rs := [.tmp 2, .tmp 3]) [.string ⟨(encU rows md i).toArray⟩, .int .i64 0] (.tuple #[.string ⟨(encU rows md i).toArray⟩, .int .i64 0]) ⟨(by kernel_rfl), (by kernel_rfl), trivial⟩ (k := ?_)
      have e_ := encU_end (rows := rows) (md := md) (i := i) (by omega)
      exact ⟨by rw [e_]; simp [bytesT, bytesE, h11], K⟩

set_option maxRecDepth 100000 in
set_option maxHeartbeats 4000000 in
theorem u14Bytes_c {A : Option Addr} {cp : Nat} {rows : List GRow} {md : Int} {w : World} (hA : SlAt rowC 6 53 A rows w) (hn : rows.length ≤ 1000000000) : Calls Try.prog 24 #[.agg #[.slice A rows.length cp, .int .i64 md]] w fun e w' => e = .returned (.tuple #[.string ⟨(bytesT ⟨rows, md⟩).toArray⟩, .int .i64 (bytesE ⟨rows, md⟩)]) ∧ Adds w w' := by
  have K : Keeps (fun _ => False) w w := Keeps.refl _ w
  refine Calls.start Try.func24 rfl (by kernel_rfl) ?_
  refine WC.seq ?_
  refine WC.region ?_
  refine WL.new (d := 1) (T := 24) #[.slice A rows.length cp, .int .i64 md] (k := fun b1 w2 g3 hb4 k5 => ?_)
  have z6 := Nat.le_trans K.size g3
  replace K := K.trans (k5.any _)
  refine WL.op (d := 2) (.string ⟨#[]⟩) (k := ?_)
  refine WL.op (d := 3) (.int .i64 0) (k := ?_)
  refine WL.nil ?_
  refine WX.seqN ?_
  refine WC.seq ?_
  refine WC.region ?_
  refine WL.load (v := .agg #[.slice A rows.length cp, .int .i64 md]) (ldN (T := 24) (i := 0) (m := 2) (l := [.slice A rows.length cp, .int .i64 md]) hb4) (k := ?_)
  refine WL.callG (d := 9) (f := 55) (args := #[.agg #[.slice A rows.length cp, .int .i64 md]]) (u14Check_c (cp := cp) (hA.adds K) (by first | omega | simp | (simp; omega))) (k := fun e_ w7 h_ => ⟨.bool (tokB (⟨rows, md⟩ : GTable)), h_.1, ?_⟩)
  have k8 := h_.2; clear h_
  replace hb4 := k8.heap hb4 id
  replace K := K.trans (k8.any _)
  refine WL.op (d := 4) (.bool (tokB (⟨rows, md⟩ : GTable))) (k := ?_)
  refine WL.nil ?_
  refine WX.seqN ?_
  refine WC.seq ?_
  refine WC.seq ?_
  refine WC.region ?_
  refine WL.op (d := 10) (.bool (tokB (⟨rows, md⟩ : GTable))) (k := ?_)
  refine WL.op (d := 11) (.bool (!(tokB (⟨rows, md⟩ : GTable)))) (k := ?_)
  refine WL.nil ?_
  refine WX.seqN ?_
  refine WC.cond (b := !(tokB (⟨rows, md⟩ : GTable))) (ht := fun h9 => ?_) (hf := fun h9 => ?_)
  · have h10 : (tokB (⟨rows, md⟩ : GTable)) = false := by simpa using h9
    have ph10 := tok_f h10
    refine WC.seq ?_
    refine WC.region ?_
    refine WL.op (d := 2) (.string ⟨#[]⟩) (k := ?_)
    refine WL.op (d := 3) (.int .i64 1) (k := ?_)
    refine WL.nil ?_
    refine WX.seqN ?_
    refine WC.ret ?_
    refine WX.seqR ?_
    refine WX.ret (rs := [.tmp 2, .tmp 3]) [.string ⟨#[]⟩, .int .i64 1] (.tuple #[.string ⟨#[]⟩, .int .i64 1]) ⟨(by kernel_rfl), (by kernel_rfl), trivial⟩ (k := ?_)
    exact ⟨by simp [bytesT, bytesE, h10], K⟩
  · have h11 : (tokB (⟨rows, md⟩ : GTable)) = true := by simpa using h9
    have ph11 := tok_t h11
    refine WC.skip ?_
    refine WX.seqN ?_
    refine WC.seq ?_
    have ok_ := (ok_iff.1 ph11).2.2; simp only at ok_; obtain ⟨_, _, _⟩ := ok_; have lm_ := encNum_len md.toNat (by omega); have ln_ := encNum_len (rows.length : Int).toNat (by omega)
    refine WC.quiet (k := ?_)
    refine WQ.op (d := 12) (.pointer (some ⟨b1, 1, none⟩)) (k := ?_)
    refine WQ.load (v := .int .i64 md) (fun w_ k_ => ld1 (T := 3) (i := 1) (k_.heap hb4 id)) (k := ?_)
    refine WQ.callG (d := 14) (f := 57) (args := #[.int .i64 md]) (v := .string ⟨(encNum (Int.toNat md)).toArray⟩) (fun w_ k_ => qIntS_any md (by omega) w_) addsR (k := ?_)
    have ln12 := encNum_len (Int.toNat md) (by omega)
    refine WQ.op (d := 15) (.pointer (some ⟨b1, 0, none⟩)) (k := ?_)
    refine WQ.load (v := .slice A rows.length cp) (fun w_ k_ => ld1 (T := 22) (i := 0) (k_.heap hb4 id)) (k := ?_)
    refine WQ.op (d := 17) (.int .i64 (rows.length : Int)) (k := ?_)
    refine WQ.callG (d := 18) (f := 57) (args := #[.int .i64 (rows.length : Int)]) (v := .string ⟨(encNum (Int.toNat (rows.length : Int))).toArray⟩) (fun w_ k_ => qIntS_any (rows.length : Int) (by omega) w_) addsR (k := ?_)
    have ln13 := encNum_len (Int.toNat (rows.length : Int)) (by omega)
    refine WQ.bin (d := 19) (v := .string ⟨((encNum (Int.toNat md)) ++ (encNum (Int.toNat (rows.length : Int)))).toArray⟩) (fun _ => cat_run (by (try simp only [List.length_append, List.length_cons, List.length_nil]); omega)) (k := ?_)
    refine WQ.op (d := 5) (.string ⟨((encNum (Int.toNat md)) ++ (encNum (Int.toNat (rows.length : Int)))).toArray⟩) (k := ?_)
    refine WQ.nilX (fun w14 k15 => ?_)
    replace hb4 := k15.heap hb4 id
    replace K := K.trans (k15.any _)
    refine WX.seqN ?_
    refine WC.seq ?_
    refine WC.seq ?_
    refine WC.region ?_
    refine WL.op (d := 6) (.int .i64 0) (k := ?_)
    refine WL.nil ?_
    refine WX.seqN ?_
    refine WC.block ?_
    have eu_ := encU_zero rows md
    refine WC.rw (t := 5) (v := .string ⟨(encU rows md 0).toArray⟩) (congrArg (fun l : List UInt8 => Value.string ⟨l.toArray⟩) (show (encNum (Int.toNat md)) ++ (encNum (Int.toNat (rows.length : Int))) = encU rows md 0 from eu_)) (k := ?_)
    refine WC.loop (ι := Int) (fun (i : Int) => [(0, .agg #[.slice A rows.length cp, .int .i64 md]), (1, .pointer (some ⟨b1, 0, none⟩)), (2, .string ⟨#[]⟩), (3, .int .i64 0), (8, .agg #[.slice A rows.length cp, .int .i64 md]), (9, .bool (tokB (⟨rows, md⟩ : GTable))), (4, .bool (tokB (⟨rows, md⟩ : GTable))), (10, .bool (tokB (⟨rows, md⟩ : GTable))), (11, .bool (!(tokB (⟨rows, md⟩ : GTable)))), (12, .pointer (some ⟨b1, 1, none⟩)), (13, .int .i64 md), (14, .string ⟨(encNum (Int.toNat md)).toArray⟩), (15, .pointer (some ⟨b1, 0, none⟩)), (16, .slice A rows.length cp), (17, .int .i64 (rows.length : Int)), (18, .string ⟨(encNum (Int.toNat (rows.length : Int))).toArray⟩), (19, .string ⟨((encNum (Int.toNat md)) ++ (encNum (Int.toNat (rows.length : Int)))).toArray⟩), (6, .int .i64 i), (5, .string ⟨(encU rows md i).toArray⟩)]) (fun (i : Int) (w_ : World) => (Keeps (fun _ => False) w w_) ∧ (w_.heap[b1]? = some (.cells #[.slice A rows.length cp, .int .i64 md] 24 (0, 0))) ∧ (0 ≤ i) ∧ (i ≤ rows.length)) (fun (i : Int) => (rows.length - i).toNat) 0 ⟨(by kernel_rfl), (by kernel_rfl), (by kernel_rfl), (by kernel_rfl), (by kernel_rfl), (by kernel_rfl), (by kernel_rfl), (by kernel_rfl), (by kernel_rfl), (by kernel_rfl), (by kernel_rfl), (by kernel_rfl), (by kernel_rfl), (by kernel_rfl), (by kernel_rfl), (by kernel_rfl), (by kernel_rfl), (by kernel_rfl), (by kernel_rfl), trivial⟩ ⟨K, hb4, Int.le_refl 0, (by omega)⟩ ?_
    rintro i w16 ⟨K, hb17, i0, i1⟩
    have lu_ := encU_len ph11 i
    refine WC.seq ?_
    refine WC.seq ?_
    refine WC.region ?_
    refine WL.op (d := 20) (.int .i64 i) (k := ?_)
    refine WL.op (d := 21) (.pointer (some ⟨b1, 0, none⟩)) (k := ?_)
    refine WL.load (v := .slice A rows.length cp) (ld1 (T := 22) (i := 0) hb17) (k := ?_)
    refine WL.op (d := 23) (.int .i64 (rows.length : Int)) (k := ?_)
    refine WL.op (d := 24) (.bool (decide (i < (rows.length : Int)))) (k := ?_)
    refine WL.nil ?_
    refine WX.seqN ?_
    refine WC.cond (b := decide (i < (rows.length : Int))) (ht := fun h18 => ?_) (hf := fun h18 => ?_)
    · have ph18 := of_decide_eq_true h18
      refine WC.skip ?_
      refine WX.seqN ?_
      refine WC.seq ?_
      refine WC.block ?_
      refine WC.seq ?_
      refine WC.region ?_
      refine WL.op (d := 27) (.pointer (some ⟨b1, 0, none⟩)) (k := ?_)
      refine WL.load (v := .slice A rows.length cp) (ld1 (T := 22) (i := 0) hb17) (k := ?_)
      refine WL.op (d := 29) (.int .i64 i) (k := ?_)
      obtain ⟨b19, o20, r21, hr22, hA23, he24⟩ := SlAt.at hA (i := i) (by omega) (by omega)
      refine WL.rw (t := 28) (v := .slice (some ⟨b19, o20, none⟩) rows.length cp) (congrArg (fun a => Value.slice a rows.length cp) hA23) (k := ?_)
      have rrr21 := row_rng ph11 hr22
      have rlr21 := row_len r21 rrr21
      obtain ⟨_, _, _, _, _, _⟩ := rlr21
      refine WL.idx (T := 22) (E := 53) (m := 6) (b := b19) (o := o20) (len := rows.length) (cap := cp) (i := i) (kk := .i64) (d := 30) (by omega) (by omega) (k := ?_)
      refine WL.rw (t := 28) (v := .slice A rows.length cp) (congrArg (fun a => Value.slice a rows.length cp) (Eq.symm hA23)) (k := ?_)
      refine WL.op (d := 31) (.pointer (some ⟨b19, o20 + (i).toNat * 6, none⟩)) (k := ?_)
      refine WL.load (v := GTask.val r21.task) ((he24.adds K).ldA0 (T := 44) (k := 5) (l := (Value.cells (GTask.val r21.task)).toList)) (k := ?_)
      refine WL.new (d := 7) (T := 44) #[.int .i64 0, .int .i64 0, .int .i64 0, .int .i64 0, .int .i64 0] (k := fun b25 w26 g27 hb28 k29 => ?_)
      have z30 := Nat.le_trans K.size g27
      have n31 : b1 ≠ b25 := Nat.ne_of_lt (Nat.lt_of_lt_of_le (lt_of_heap hb17) g27)
      replace hb17 := k29.heap hb17 id
      replace K := K.trans (k29.any _)
      refine WL.store (v := GTask.val r21.task) (i := 0) (cs' := (Value.cells (GTask.val r21.task))) hb28 (k := fun w32 hb33 k34 => ?_)
      replace hb17 := k34.heap hb17 n31
      replace K := K.trans' k34 (fun i hi e => absurd (e ▸ hi) (Nat.not_lt.2 z30))
      clear hb28
      refine WL.nil ?_
      refine WX.seqN ?_
      refine WC.quiet (k := ?_)
      refine WQ.op (d := 33) (.string ⟨(encU rows md i).toArray⟩) (k := ?_)
      refine WQ.op (d := 34) (.pointer (some ⟨b25, 0, none⟩)) (k := ?_)
      refine WQ.load (v := .int .i64 r21.task.id) (fun w_ k_ => ld1 (T := 3) (i := 0) (k_.heap hb33 id)) (k := ?_)
      refine WQ.callG (d := 36) (f := 57) (args := #[.int .i64 r21.task.id]) (v := .string ⟨(encNum (Int.toNat r21.task.id)).toArray⟩) (fun w_ k_ => qIntS_any r21.task.id (by omega) w_) addsR (k := ?_)
      have ln35 := encNum_len (Int.toNat r21.task.id) (by omega)
      refine WQ.bin (d := 37) (v := .string ⟨((encU rows md i) ++ (encNum (Int.toNat r21.task.id))).toArray⟩) (fun _ => cat_run (by (try simp only [List.length_append, List.length_cons, List.length_nil]); omega)) (k := ?_)
      refine WQ.op (d := 38) (.pointer (some ⟨b25, 1, none⟩)) (k := ?_)
      refine WQ.load (v := .int .i64 r21.task.c) (fun w_ k_ => ld1 (T := 2) (i := 1) (k_.heap hb33 id)) (k := ?_)
      refine WQ.opE (d := 40) (.int .u64 (IntKind.u64.wrap r21.task.c)) (v := .int .u64 r21.task.c) (congrArg (Value.int .u64) (IntWalk.u64_in _ (by omega))) (k := ?_)
      refine WQ.callG (d := 41) (f := 58) (args := #[.int .u64 r21.task.c]) (v := .string ⟨(encNum (Int.toNat r21.task.c)).toArray⟩) (fun w_ k_ => qNumS_any (Int.toNat r21.task.c) r21.task.c (by omega) (by omega) w_) addsR (k := ?_)
      have ln36 := encNum_len (Int.toNat r21.task.c) (by omega)
      refine WQ.bin (d := 42) (v := .string ⟨((encU rows md i) ++ (encNum (Int.toNat r21.task.id)) ++ (encNum (Int.toNat r21.task.c))).toArray⟩) (fun _ => cat_run (by (try simp only [List.length_append, List.length_cons, List.length_nil]); omega)) (k := ?_)
      refine WQ.op (d := 43) (.pointer (some ⟨b25, 2, none⟩)) (k := ?_)
      refine WQ.load (v := .int .i64 r21.task.d) (fun w_ k_ => ld1 (T := 2) (i := 2) (k_.heap hb33 id)) (k := ?_)
      refine WQ.opE (d := 45) (.int .u64 (IntKind.u64.wrap r21.task.d)) (v := .int .u64 r21.task.d) (congrArg (Value.int .u64) (IntWalk.u64_in _ (by omega))) (k := ?_)
      refine WQ.callG (d := 46) (f := 58) (args := #[.int .u64 r21.task.d]) (v := .string ⟨(encNum (Int.toNat r21.task.d)).toArray⟩) (fun w_ k_ => qNumS_any (Int.toNat r21.task.d) r21.task.d (by omega) (by omega) w_) addsR (k := ?_)
      have ln37 := encNum_len (Int.toNat r21.task.d) (by omega)
      refine WQ.bin (d := 47) (v := .string ⟨((encU rows md i) ++ (encNum (Int.toNat r21.task.id)) ++ (encNum (Int.toNat r21.task.c)) ++ (encNum (Int.toNat r21.task.d))).toArray⟩) (fun _ => cat_run (by (try simp only [List.length_append, List.length_cons, List.length_nil]); omega)) (k := ?_)
      refine WQ.op (d := 48) (.pointer (some ⟨b25, 3, none⟩)) (k := ?_)
      refine WQ.load (v := .int .i64 r21.task.t) (fun w_ k_ => ld1 (T := 2) (i := 3) (k_.heap hb33 id)) (k := ?_)
      refine WQ.opE (d := 50) (.int .u64 (IntKind.u64.wrap r21.task.t)) (v := .int .u64 r21.task.t) (congrArg (Value.int .u64) (IntWalk.u64_in _ (by omega))) (k := ?_)
      refine WQ.callG (d := 51) (f := 58) (args := #[.int .u64 r21.task.t]) (v := .string ⟨(encNum (Int.toNat r21.task.t)).toArray⟩) (fun w_ k_ => qNumS_any (Int.toNat r21.task.t) r21.task.t (by omega) (by omega) w_) addsR (k := ?_)
      have ln38 := encNum_len (Int.toNat r21.task.t) (by omega)
      refine WQ.bin (d := 52) (v := .string ⟨((encU rows md i) ++ (encNum (Int.toNat r21.task.id)) ++ (encNum (Int.toNat r21.task.c)) ++ (encNum (Int.toNat r21.task.d)) ++ (encNum (Int.toNat r21.task.t))).toArray⟩) (fun _ => cat_run (by (try simp only [List.length_append, List.length_cons, List.length_nil]); omega)) (k := ?_)
      refine WQ.op (d := 53) (.pointer (some ⟨b25, 4, none⟩)) (k := ?_)
      refine WQ.load (v := .int .i64 r21.task.m) (fun w_ k_ => ld1 (T := 3) (i := 4) (k_.heap hb33 id)) (k := ?_)
      refine WQ.callG (d := 55) (f := 57) (args := #[.int .i64 r21.task.m]) (v := .string ⟨(encNum (Int.toNat r21.task.m)).toArray⟩) (fun w_ k_ => qIntS_any r21.task.m (by omega) w_) addsR (k := ?_)
      have ln39 := encNum_len (Int.toNat r21.task.m) (by omega)
      refine WQ.bin (d := 56) (v := .string ⟨((encU rows md i) ++ (encNum (Int.toNat r21.task.id)) ++ (encNum (Int.toNat r21.task.c)) ++ (encNum (Int.toNat r21.task.d)) ++ (encNum (Int.toNat r21.task.t)) ++ (encNum (Int.toNat r21.task.m))).toArray⟩) (fun _ => cat_run (by (try simp only [List.length_append, List.length_cons, List.length_nil]); omega)) (k := ?_)
      refine WQ.op (d := 57) (.pointer (some ⟨b1, 0, none⟩)) (k := ?_)
      refine WQ.load (v := .slice A rows.length cp) (fun w_ k_ => ld1 (T := 22) (i := 0) (k_.heap hb17 id)) (k := ?_)
      refine WQ.op (d := 59) (.int .i64 i) (k := ?_)
      obtain ⟨b40, o41, r42, hr43, hA44, he45⟩ := SlAt.at hA (i := i) (by omega) (by omega)
      refine WQ.rw (t := 58) (v := .slice (some ⟨b40, o41, none⟩) rows.length cp) (congrArg (fun a => Value.slice a rows.length cp) hA44) (k := ?_)
      have rrr42 := row_rng ph11 hr43
      have rlr42 := row_len r42 rrr42
      obtain ⟨_, _, _, _, _, _⟩ := rlr42
      refine WQ.idx (T := 22) (E := 53) (m := 6) (b := b40) (o := o41) (len := rows.length) (cap := cp) (i := i) (kk := .i64) (d := 60) (by omega) (by omega) (k := ?_)
      refine WQ.rw (t := 58) (v := .slice A rows.length cp) (congrArg (fun a => Value.slice a rows.length cp) (Eq.symm hA44)) (k := ?_)
      refine WQ.op (d := 61) (.pointer (some ⟨b40, o41 + (i).toNat * 6 + 5, none⟩)) (k := ?_)
      refine WQ.load (v := .bool r42.sv) (fun w_ k_ => ((he45.adds K).adds k_).ldF (T := 4) (off := 5)) (k := ?_)
      refine WQ.callG (d := 63) (f := 59) (args := #[.bool r42.sv]) (v := .string ⟨(encFlag r42.sv).toArray⟩) (fun w_ k_ => qFlagS_any r42.sv w_) addsR (k := ?_)
      have ln46 := encFlag_len r42.sv
      refine WQ.bin (d := 64) (v := .string ⟨((encU rows md i) ++ (encNum (Int.toNat r21.task.id)) ++ (encNum (Int.toNat r21.task.c)) ++ (encNum (Int.toNat r21.task.d)) ++ (encNum (Int.toNat r21.task.t)) ++ (encNum (Int.toNat r21.task.m)) ++ (encFlag r42.sv)).toArray⟩) (fun _ => cat_run (by (try simp only [List.length_append, List.length_cons, List.length_nil]); omega)) (k := ?_)
      refine WQ.op (d := 5) (.string ⟨((encU rows md i) ++ (encNum (Int.toNat r21.task.id)) ++ (encNum (Int.toNat r21.task.c)) ++ (encNum (Int.toNat r21.task.d)) ++ (encNum (Int.toNat r21.task.t)) ++ (encNum (Int.toNat r21.task.m)) ++ (encFlag r42.sv)).toArray⟩) (k := ?_)
      refine WQ.nilX (fun w47 k48 => ?_)
      replace hb17 := k48.heap hb17 id
      replace hb33 := k48.heap hb33 id
      replace K := K.trans (k48.any _)
      refine WX.blockN ?_
      refine WX.seqN ?_
      refine WC.region ?_
      refine WL.op (d := 25) (.int .i64 i) (k := ?_)
      refine WL.opE (d := 26) (.int .i64 (IntKind.i64.wrap (i + 1))) (v := .int .i64 (i + 1)) (congrArg (Value.int .i64) (IntWalk.i64_in _ (by omega))) (k := ?_)
      refine WL.op (d := 6) (.int .i64 (i + 1)) (k := ?_)
      refine WL.nil ?_
      obtain rfl : r42 = r21 := Option.some.inj (hr43.symm.trans hr22)
      refine WX.rw (t := 5) (v := .string ⟨(encU rows md (i + 1)).toArray⟩) (congrArg (fun l : List UInt8 => Value.string ⟨l.toArray⟩) (encU_row i0 hr22)) (k := ?_)
      refine WX.round (i + 1) (by show (rows.length - (i + 1)).toNat < (rows.length - i).toNat; omega) ⟨(by kernel_rfl), (by kernel_rfl), (by kernel_rfl), (by kernel_rfl), (by kernel_rfl), (by kernel_rfl), (by kernel_rfl), (by kernel_rfl), (by kernel_rfl), (by kernel_rfl), (by kernel_rfl), (by kernel_rfl), (by kernel_rfl), (by kernel_rfl), (by kernel_rfl), (by kernel_rfl), (by kernel_rfl), (by kernel_rfl), (by kernel_rfl), trivial⟩ ⟨K, hb17, (by omega), (by omega)⟩
    · have ph18 := of_decide_eq_false h18
      refine WC.exit ?_
      refine WX.seqE ?_
      refine WX.seqE ?_
      refine WX.blockE ?_
      refine WX.seqN ?_
      refine WC.seq ?_
      refine WC.region ?_
      refine WL.op (d := 65) (.string ⟨(encU rows md i).toArray⟩) (k := ?_)
      refine WL.op (d := 2) (.string ⟨(encU rows md i).toArray⟩) (k := ?_)
      refine WL.op (d := 3) (.int .i64 0) (k := ?_)
      refine WL.nil ?_
      refine WX.seqN ?_
      refine WC.ret ?_
      refine WX.ret (rs := [.tmp 2, .tmp 3]) [.string ⟨(encU rows md i).toArray⟩, .int .i64 0] (.tuple #[.string ⟨(encU rows md i).toArray⟩, .int .i64 0]) ⟨(by kernel_rfl), (by kernel_rfl), trivial⟩ (k := ?_)
      have e_ := encU_end (rows := rows) (md := md) (i := i) (by omega)
      exact ⟨by rw [e_]; simp [bytesT, bytesE, h11], K⟩

theorem tBytes_2 (w : World) : Calls Try.prog 34 #[.agg #[.slice none 0 0, .int .i64 2]] w fun e w' => e = .returned (.tuple #[.string ⟨#[1, 2, 0]⟩, .int .i64 0]) ∧ Adds w w' := by
  have h := tBytes_c (A := none) (cp := 0) (rows := []) (md := 2) (w := w) SlAt.nil (by simp)
  rw [bytes_2.1, bytes_2.2] at h
  exact h
theorem tCheck_0 (w : World) : Calls Try.prog 36 #[.agg #[.slice none 0 0, .int .i64 0]] w fun e w' => e = .returned (.bool true) ∧ Adds w w' := by
  have h := tCheck_c (A := none) (cp := 0) (rows := []) (md := 0) (w := w) SlAt.nil (by simp)
  rw [tok_00] at h
  exact h

set_option maxRecDepth 100000 in
theorem l14awake_c (w : World) : Calls Try.prog 16 #[] w fun e w' => e = .returned (.bool true) ∧ Adds w w' := by
  have K : Keeps (fun _ => False) w w := Keeps.refl _ w
  refine Calls.start Try.func16 rfl (by kernel_rfl) ?_
  refine WC.seq ?_
  refine WC.region ?_
  refine WL.op (d := 0) (.bool false) (k := ?_)
  refine WL.nil ?_
  refine WX.seqN ?_
  refine WC.seq ?_
  refine WC.region ?_
  refine WL.op (d := 4) (.agg #[.slice none 0 0, .int .i64 2]) (k := ?_)
  refine WL.callG (d := 5) (f := 34) (args := #[.agg #[.slice none 0 0, .int .i64 2]]) (tBytes_2 w) (k := fun e_ w1 h_ => ⟨.tuple #[.string ⟨#[1, 2, 0]⟩, .int .i64 0], h_.1, ?_⟩)
  have k2 := h_.2; clear h_
  replace K := K.trans (k2.any _)
  refine WL.op (d := 3) (.tuple #[.string ⟨#[1, 2, 0]⟩, .int .i64 0]) (k := ?_)
  refine WL.op (d := 6) (.string ⟨#[1, 2, 0]⟩) (k := ?_)
  refine WL.op (d := 7) (.int .i64 0) (k := ?_)
  refine WL.op (d := 1) (.string ⟨#[1, 2, 0]⟩) (k := ?_)
  refine WL.op (d := 2) (.int .i64 0) (k := ?_)
  refine WL.nil ?_
  refine WX.seqN ?_
  refine WC.seq ?_
  refine WC.region ?_
  refine WL.op (d := 8) (.string ⟨#[1, 2, 0]⟩) (k := ?_)
  refine WL.op (d := 9) (.bool true) (k := ?_)
  refine WL.op (d := 10) (.bool true) (k := ?_)
  refine WL.op (d := 11) (.int .i64 0) (k := ?_)
  refine WL.op (d := 12) (.bool true) (k := ?_)
  refine WL.op (d := 13) (.bool true) (k := ?_)
  refine WL.op (d := 14) (.bool true) (k := ?_)
  refine WL.op (d := 15) (.agg #[.slice none 0 0, .int .i64 0]) (k := ?_)
  refine WL.callG (d := 16) (f := 36) (args := #[.agg #[.slice none 0 0, .int .i64 0]]) (tCheck_0 w1) (k := fun e_ w3 h_ => ⟨.bool true, h_.1, ?_⟩)
  have k4 := h_.2; clear h_
  replace K := K.trans (k4.any _)
  refine WL.op (d := 17) (.bool true) (k := ?_)
  refine WL.op (d := 0) (.bool true) (k := ?_)
  refine WL.nil ?_
  refine WX.seqN ?_
  refine WC.ret ?_
  refine WX.ret (rs := [.tmp 0]) [.bool true] (.bool true) ⟨(by kernel_rfl), trivial⟩ (k := ?_)
  exact ⟨rfl, K⟩

set_option maxRecDepth 100000 in
theorem l14few_c {A : Option Addr} {cp : Nat} {rows : List GRow} {md : Int} {w : World} (hA : SlAt rowC 6 53 A rows w) (hc : rows.length ≤ cp) : Calls Try.prog 20 #[.agg #[.slice A rows.length cp, .int .i64 md]] w fun e w' => e = .returned (.agg #[.slice A (rows.take 18).length cp, .int .i64 md]) ∧ Adds w w' := by
  have K : Keeps (fun _ => False) w w := Keeps.refl _ w
  refine Calls.start Try.func20 rfl (by kernel_rfl) ?_
  refine WC.seq ?_
  refine WC.region ?_
  refine WL.new (d := 1) (T := 24) #[.slice A rows.length cp, .int .i64 md] (k := fun b1 w2 g3 hb4 k5 => ?_)
  have z6 := Nat.le_trans K.size g3
  replace K := K.trans (k5.any _)
  refine WL.new (d := 2) (T := 24) #[.slice none 0 0, .int .i64 0] (k := fun b7 w8 g9 hb10 k11 => ?_)
  have z12 := Nat.le_trans K.size g9
  have n13 : b1 ≠ b7 := Nat.ne_of_lt (Nat.lt_of_lt_of_le (lt_of_heap hb4) g9)
  replace hb4 := k11.heap hb4 id
  replace K := K.trans (k11.any _)
  refine WL.nil ?_
  refine WX.seqN ?_
  refine WC.seq ?_
  refine WC.seq ?_
  refine WC.region ?_
  refine WL.op (d := 3) (.pointer (some ⟨b1, 0, none⟩)) (k := ?_)
  refine WL.load (v := .slice A rows.length cp) (ld1 (T := 22) (i := 0) hb4) (k := ?_)
  refine WL.op (d := 5) (.int .i64 (rows.length : Int)) (k := ?_)
  refine WL.op (d := 6) (.bool (decide ((rows.length : Int) > 18))) (k := ?_)
  refine WL.nil ?_
  refine WX.seqN ?_
  refine WC.cond (b := decide ((rows.length : Int) > 18)) (ht := fun h14 => ?_) (hf := fun h14 => ?_)
  · have ph14 := of_decide_eq_true h14
    refine WC.region ?_
    refine WL.op (d := 7) (.pointer (some ⟨b1, 0, none⟩)) (k := ?_)
    refine WL.load (v := .slice A rows.length cp) (ld1 (T := 22) (i := 0) hb4) (k := ?_)
    have hs15 := SlAt.cutT (b := 18) (c := cp) hA (by omega) (by omega)
    refine WL.cut (d := 9) (vx := .slice A rows.length cp) (lo' := none) (hi' := (some (.int .i64 18))) (mx' := none) (v := .slice A ((List.take 18 rows).length) cp) (run_cutSl (a := 0) (b := 18) (c := cp) (m := 6) (E := 53) (by kernel_rfl) (by kernel_rfl) (.inl ⟨rfl, rfl⟩) (.inr ⟨_, _, rfl, by omega⟩) (.inl ⟨rfl, rfl⟩) (by omega) (by omega) (cutA_zero _ _ _) (by simp <;> omega) (by omega)) (k := ?_)
    refine WL.op (d := 10) (.pointer (some ⟨b1, 0, none⟩)) (k := ?_)
    refine WL.store (v := .slice A ((List.take 18 rows).length) cp) (i := 0) (cs' := #[.slice A ((List.take 18 rows).length) cp, .int .i64 md]) hb4 (k := fun w16 hb17 k18 => ?_)
    replace hb10 := k18.heap hb10 (Ne.symm n13)
    replace K := K.trans' k18 (fun i hi e => absurd (e ▸ hi) (Nat.not_lt.2 z6))
    clear hb4
    refine WL.nil ?_
    refine WX.seqN ?_
    refine WC.seq ?_
    refine WC.region ?_
    refine WL.load (v := .agg #[.slice A ((List.take 18 rows).length) cp, .int .i64 md]) (ldN (T := 24) (i := 0) (m := 2) (l := [.slice A ((List.take 18 rows).length) cp, .int .i64 md]) hb17) (k := ?_)
    refine WL.store (v := .agg #[.slice A ((List.take 18 rows).length) cp, .int .i64 md]) (i := 0) (cs' := #[.slice A ((List.take 18 rows).length) cp, .int .i64 md]) hb10 (k := fun w19 hb20 k21 => ?_)
    replace hb17 := k21.heap hb17 n13
    replace K := K.trans' k21 (fun i hi e => absurd (e ▸ hi) (Nat.not_lt.2 z12))
    clear hb10
    refine WL.nil ?_
    refine WX.seqN ?_
    refine WC.ret ?_
    refine WX.ret (rs := [.cell 2 24]) [.agg #[.slice A ((List.take 18 rows).length) cp, .int .i64 md]] (.agg #[.slice A ((List.take 18 rows).length) cp, .int .i64 md]) ⟨⟨_, (by kernel_rfl), ldN (T := 24) (i := 0) (m := 2) (l := [.slice A ((List.take 18 rows).length) cp, .int .i64 md]) hb20⟩, trivial⟩ (k := ?_)
    exact ⟨rfl, K⟩
  · have ph14 := of_decide_eq_false h14
    refine WC.skip ?_
    refine WX.seqN ?_
    refine WC.seq ?_
    refine WC.region ?_
    refine WL.load (v := .agg #[.slice A rows.length cp, .int .i64 md]) (ldN (T := 24) (i := 0) (m := 2) (l := [.slice A rows.length cp, .int .i64 md]) hb4) (k := ?_)
    refine WL.store (v := .agg #[.slice A rows.length cp, .int .i64 md]) (i := 0) (cs' := #[.slice A rows.length cp, .int .i64 md]) hb10 (k := fun w22 hb23 k24 => ?_)
    replace hb4 := k24.heap hb4 n13
    replace K := K.trans' k24 (fun i hi e => absurd (e ▸ hi) (Nat.not_lt.2 z12))
    clear hb10
    refine WL.nil ?_
    refine WX.seqN ?_
    refine WC.ret ?_
    refine WX.ret (rs := [.cell 2 24]) [.agg #[.slice A rows.length cp, .int .i64 md]] (.agg #[.slice A rows.length cp, .int .i64 md]) ⟨⟨_, (by kernel_rfl), ldN (T := 24) (i := 0) (m := 2) (l := [.slice A rows.length cp, .int .i64 md]) hb23⟩, trivial⟩ (k := ?_)
    exact ⟨by rw [List.take_of_length_le (by omega)], K⟩

set_option maxRecDepth 100000 in
theorem l14near_c (o : GOp) (w : World) : Calls Try.prog 28 #[o.val] w fun e w' => e = .returned (nearOp o).val ∧ Adds w w' := by
  have K : Keeps (fun _ => False) w w := Keeps.refl _ w
  refine Calls.start Try.func28 rfl (by kernel_rfl) ?_
  refine WC.seq ?_
  refine WC.region ?_
  refine WL.new (d := 1) (T := 46) (Value.cells (GOp.val o)) (k := fun b1 w2 g3 hb4 k5 => ?_)
  have z6 := Nat.le_trans K.size g3
  replace K := K.trans (k5.any _)
  refine WL.new (d := 2) (T := 46) #[.int .i64 0, .int .i64 0, .int .i64 0, .int .i64 0, .int .i64 0, .int .i64 0, .bool false, .int .i64 0, .int .i64 0, .int .i64 0] (k := fun b7 w8 g9 hb10 k11 => ?_)
  have z12 := Nat.le_trans K.size g9
  have n13 : b1 ≠ b7 := Nat.ne_of_lt (Nat.lt_of_lt_of_le (lt_of_heap hb4) g9)
  replace hb4 := k11.heap hb4 id
  replace K := K.trans (k11.any _)
  refine WL.nil ?_
  refine WX.seqN ?_
  refine WC.seq ?_
  refine WC.region ?_
  refine WL.load (v := GOp.val o) (ldN (T := 46) (i := 0) (m := 10) (l := (Value.cells (GOp.val o)).toList) hb4) (k := ?_)
  refine WL.callG (d := 5) (f := 39) (args := #[GOp.val o]) (u13Bare_c o w8) (k := fun e_ w14 h_ => ⟨GOp.val (GOp.bare o), h_.1, ?_⟩)
  have k15 := h_.2; clear h_
  replace hb4 := k15.heap hb4 id
  replace hb10 := k15.heap hb10 id
  replace K := K.trans (k15.any _)
  refine WL.new (d := 3) (T := 46) #[.int .i64 0, .int .i64 0, .int .i64 0, .int .i64 0, .int .i64 0, .int .i64 0, .bool false, .int .i64 0, .int .i64 0, .int .i64 0] (k := fun b16 w17 g18 hb19 k20 => ?_)
  have z21 := Nat.le_trans K.size g18
  have n22 : b1 ≠ b16 := Nat.ne_of_lt (Nat.lt_of_lt_of_le (lt_of_heap hb4) g18)
  have n23 : b7 ≠ b16 := Nat.ne_of_lt (Nat.lt_of_lt_of_le (lt_of_heap hb10) g18)
  replace hb4 := k20.heap hb4 id
  replace hb10 := k20.heap hb10 id
  replace K := K.trans (k20.any _)
  refine WL.store (v := GOp.val (GOp.bare o)) (i := 0) (cs' := (Value.cells (GOp.val (GOp.bare o)))) hb19 (k := fun w24 hb25 k26 => ?_)
  replace hb4 := k26.heap hb4 n22
  replace hb10 := k26.heap hb10 n23
  replace K := K.trans' k26 (fun i hi e => absurd (e ▸ hi) (Nat.not_lt.2 z21))
  clear hb19
  refine WL.nil ?_
  refine WX.seqN ?_
  refine WC.seq ?_
  refine WC.region ?_
  refine WL.op (d := 6) (.pointer (some ⟨b16, 7, none⟩)) (k := ?_)
  refine WL.load (v := .int .i64 ((GOp.bare o).id)) (ld1 (T := 3) (i := 7) hb25) (k := ?_)
  refine WL.bin (d := 8) (v := .int .i64 (bits BinOp.and IntKind.i64 ((GOp.bare o).id) 1023)) (bits_run (by decide)) (k := ?_)
  refine WL.bin (d := 9) (v := .int .i64 (Int.tmod (bits BinOp.and IntKind.i64 ((GOp.bare o).id) 1023) 17)) (rem_run (by omega)) (k := ?_)
  have m27 := tmod_rng (bits BinOp.and IntKind.i64 ((GOp.bare o).id) 1023) 17 (by omega)
  obtain ⟨r28, e29⟩ : ∃ r : Int, Int.tmod (bits BinOp.and IntKind.i64 ((GOp.bare o).id) 1023) 17 = r := ⟨_, rfl⟩
  rw [e29] at m27
  refine WL.rw (t := 9) (v := .int .i64 r28) (congrArg (Value.int .i64) e29) (k := ?_)
  refine WL.op (d := 10) (.pointer (some ⟨b16, 7, none⟩)) (k := ?_)
  refine WL.store (v := .int .i64 r28) (i := 7) (cs' := #[.int .i64 ((GOp.bare o).kind), .int .i64 ((GOp.bare o).task.id), .int .i64 ((GOp.bare o).task.c), .int .i64 ((GOp.bare o).task.d), .int .i64 ((GOp.bare o).task.t), .int .i64 ((GOp.bare o).task.m), .bool ((GOp.bare o).sv), .int .i64 r28, .int .i64 ((GOp.bare o).c), .int .i64 ((GOp.bare o).m)]) hb25 (k := fun w30 hb31 k32 => ?_)
  replace hb4 := k32.heap hb4 n22
  replace hb10 := k32.heap hb10 n23
  replace K := K.trans' k32 (fun i hi e => absurd (e ▸ hi) (Nat.not_lt.2 z21))
  clear hb25
  refine WL.nil ?_
  refine WX.seqN ?_
  refine WC.seq ?_
  refine WC.seq ?_
  refine WC.region ?_
  refine WL.op (d := 11) (.pointer (some ⟨b16, 0, none⟩)) (k := ?_)
  refine WL.load (v := .int .i64 ((GOp.bare o).kind)) (ld1 (T := 3) (i := 0) hb31) (k := ?_)
  refine WL.op (d := 13) (.bool (((GOp.bare o).kind) == 1)) (k := ?_)
  refine WL.nil ?_
  refine WX.seqN ?_
  refine WC.cond (b := ((GOp.bare o).kind) == 1) (ht := fun h33 => ?_) (hf := fun h33 => ?_)
  · have ph33 := eq_of_beq h33
    refine WC.seq ?_
    refine WC.region ?_
    refine WL.op (d := 14) (.pointer (some ⟨b16, 7, none⟩)) (k := ?_)
    refine WL.store (v := .int .i64 0) (i := 7) (cs' := #[.int .i64 ((GOp.bare o).kind), .int .i64 ((GOp.bare o).task.id), .int .i64 ((GOp.bare o).task.c), .int .i64 ((GOp.bare o).task.d), .int .i64 ((GOp.bare o).task.t), .int .i64 ((GOp.bare o).task.m), .bool ((GOp.bare o).sv), .int .i64 0, .int .i64 ((GOp.bare o).c), .int .i64 ((GOp.bare o).m)]) hb31 (k := fun w34 hb35 k36 => ?_)
    replace hb4 := k36.heap hb4 n22
    replace hb10 := k36.heap hb10 n23
    replace K := K.trans' k36 (fun i hi e => absurd (e ▸ hi) (Nat.not_lt.2 z21))
    clear hb31
    refine WL.nil ?_
    refine WX.seqN ?_
    refine WC.region ?_
    refine WL.op (d := 15) (.pointer (some ⟨b16, 1, none⟩)) (k := ?_)
    refine WL.op (d := 16) (.pointer (some ⟨b16, 1, none⟩)) (k := ?_)
    refine WL.load (v := .int .i64 ((GOp.bare o).task.id)) (ld1 (T := 3) (i := 1) hb35) (k := ?_)
    refine WL.bin (d := 18) (v := .int .i64 (bits BinOp.and IntKind.i64 ((GOp.bare o).task.id) 1023)) (bits_run (by decide)) (k := ?_)
    refine WL.bin (d := 19) (v := .int .i64 (Int.tmod (bits BinOp.and IntKind.i64 ((GOp.bare o).task.id) 1023) 17)) (rem_run (by omega)) (k := ?_)
    have m37 := tmod_rng (bits BinOp.and IntKind.i64 ((GOp.bare o).task.id) 1023) 17 (by omega)
    obtain ⟨r38, e39⟩ : ∃ r : Int, Int.tmod (bits BinOp.and IntKind.i64 ((GOp.bare o).task.id) 1023) 17 = r := ⟨_, rfl⟩
    rw [e39] at m37
    refine WL.rw (t := 19) (v := .int .i64 r38) (congrArg (Value.int .i64) e39) (k := ?_)
    refine WL.op (d := 20) (.pointer (some ⟨b16, 1, none⟩)) (k := ?_)
    refine WL.op (d := 21) (.pointer (some ⟨b16, 1, none⟩)) (k := ?_)
    refine WL.store (v := .int .i64 r38) (i := 1) (cs' := #[.int .i64 ((GOp.bare o).kind), .int .i64 r38, .int .i64 ((GOp.bare o).task.c), .int .i64 ((GOp.bare o).task.d), .int .i64 ((GOp.bare o).task.t), .int .i64 ((GOp.bare o).task.m), .bool ((GOp.bare o).sv), .int .i64 0, .int .i64 ((GOp.bare o).c), .int .i64 ((GOp.bare o).m)]) hb35 (k := fun w40 hb41 k42 => ?_)
    replace hb4 := k42.heap hb4 n22
    replace hb10 := k42.heap hb10 n23
    replace K := K.trans' k42 (fun i hi e => absurd (e ▸ hi) (Nat.not_lt.2 z21))
    clear hb35
    refine WL.nil ?_
    refine WX.seqN ?_
    refine WC.seq ?_
    refine WC.seq ?_
    refine WC.region ?_
    refine WL.op (d := 22) (.pointer (some ⟨b16, 0, none⟩)) (k := ?_)
    refine WL.load (v := .int .i64 ((GOp.bare o).kind)) (ld1 (T := 3) (i := 0) hb41) (k := ?_)
    refine WL.op (d := 24) (.bool (((GOp.bare o).kind) == 4)) (k := ?_)
    refine WL.nil ?_
    refine WX.seqN ?_
    refine WC.cond (b := ((GOp.bare o).kind) == 4) (ht := fun h43 => ?_) (hf := fun h43 => ?_)
    · have ph43 := eq_of_beq h43
      refine WC.region ?_
      refine WL.op (d := 25) (.pointer (some ⟨b16, 7, none⟩)) (k := ?_)
      refine WL.store (v := .int .i64 0) (i := 7) (cs' := #[.int .i64 ((GOp.bare o).kind), .int .i64 r38, .int .i64 ((GOp.bare o).task.c), .int .i64 ((GOp.bare o).task.d), .int .i64 ((GOp.bare o).task.t), .int .i64 ((GOp.bare o).task.m), .bool ((GOp.bare o).sv), .int .i64 0, .int .i64 ((GOp.bare o).c), .int .i64 ((GOp.bare o).m)]) hb41 (k := fun w44 hb45 k46 => ?_)
      replace hb4 := k46.heap hb4 n22
      replace hb10 := k46.heap hb10 n23
      replace K := K.trans' k46 (fun i hi e => absurd (e ▸ hi) (Nat.not_lt.2 z21))
      clear hb41
      refine WL.nil ?_
      refine WX.seqN ?_
      refine WC.seq ?_
      refine WC.region ?_
      refine WL.load (v := .agg #[.int .i64 ((GOp.bare o).kind), .int .i64 r38, .int .i64 ((GOp.bare o).task.c), .int .i64 ((GOp.bare o).task.d), .int .i64 ((GOp.bare o).task.t), .int .i64 ((GOp.bare o).task.m), .bool ((GOp.bare o).sv), .int .i64 0, .int .i64 ((GOp.bare o).c), .int .i64 ((GOp.bare o).m)]) (ldN (T := 46) (i := 0) (m := 10) (l := [.int .i64 ((GOp.bare o).kind), .int .i64 r38, .int .i64 ((GOp.bare o).task.c), .int .i64 ((GOp.bare o).task.d), .int .i64 ((GOp.bare o).task.t), .int .i64 ((GOp.bare o).task.m), .bool ((GOp.bare o).sv), .int .i64 0, .int .i64 ((GOp.bare o).c), .int .i64 ((GOp.bare o).m)]) hb45) (k := ?_)
      refine WL.store (v := .agg #[.int .i64 ((GOp.bare o).kind), .int .i64 r38, .int .i64 ((GOp.bare o).task.c), .int .i64 ((GOp.bare o).task.d), .int .i64 ((GOp.bare o).task.t), .int .i64 ((GOp.bare o).task.m), .bool ((GOp.bare o).sv), .int .i64 0, .int .i64 ((GOp.bare o).c), .int .i64 ((GOp.bare o).m)]) (i := 0) (cs' := #[.int .i64 ((GOp.bare o).kind), .int .i64 r38, .int .i64 ((GOp.bare o).task.c), .int .i64 ((GOp.bare o).task.d), .int .i64 ((GOp.bare o).task.t), .int .i64 ((GOp.bare o).task.m), .bool ((GOp.bare o).sv), .int .i64 0, .int .i64 ((GOp.bare o).c), .int .i64 ((GOp.bare o).m)]) hb10 (k := fun w47 hb48 k49 => ?_)
      replace hb4 := k49.heap hb4 n13
      replace hb45 := k49.heap hb45 (Ne.symm n23)
      replace K := K.trans' k49 (fun i hi e => absurd (e ▸ hi) (Nat.not_lt.2 z12))
      clear hb10
      refine WL.nil ?_
      refine WX.seqN ?_
      refine WC.ret ?_
      refine WX.ret (rs := [.cell 2 46]) [.agg #[.int .i64 ((GOp.bare o).kind), .int .i64 r38, .int .i64 ((GOp.bare o).task.c), .int .i64 ((GOp.bare o).task.d), .int .i64 ((GOp.bare o).task.t), .int .i64 ((GOp.bare o).task.m), .bool ((GOp.bare o).sv), .int .i64 0, .int .i64 ((GOp.bare o).c), .int .i64 ((GOp.bare o).m)]] (.agg #[.int .i64 ((GOp.bare o).kind), .int .i64 r38, .int .i64 ((GOp.bare o).task.c), .int .i64 ((GOp.bare o).task.d), .int .i64 ((GOp.bare o).task.t), .int .i64 ((GOp.bare o).task.m), .bool ((GOp.bare o).sv), .int .i64 0, .int .i64 ((GOp.bare o).c), .int .i64 ((GOp.bare o).m)]) ⟨⟨_, (by kernel_rfl), ldN (T := 46) (i := 0) (m := 10) (l := [.int .i64 ((GOp.bare o).kind), .int .i64 r38, .int .i64 ((GOp.bare o).task.c), .int .i64 ((GOp.bare o).task.d), .int .i64 ((GOp.bare o).task.t), .int .i64 ((GOp.bare o).task.m), .bool ((GOp.bare o).sv), .int .i64 0, .int .i64 ((GOp.bare o).c), .int .i64 ((GOp.bare o).m)]) hb48⟩, trivial⟩ (k := ?_)
      exfalso; omega
    · have ph43 := ne_of_beq_false h43
      refine WC.skip ?_
      refine WX.seqN ?_
      refine WC.seq ?_
      refine WC.region ?_
      refine WL.load (v := .agg #[.int .i64 ((GOp.bare o).kind), .int .i64 r38, .int .i64 ((GOp.bare o).task.c), .int .i64 ((GOp.bare o).task.d), .int .i64 ((GOp.bare o).task.t), .int .i64 ((GOp.bare o).task.m), .bool ((GOp.bare o).sv), .int .i64 0, .int .i64 ((GOp.bare o).c), .int .i64 ((GOp.bare o).m)]) (ldN (T := 46) (i := 0) (m := 10) (l := [.int .i64 ((GOp.bare o).kind), .int .i64 r38, .int .i64 ((GOp.bare o).task.c), .int .i64 ((GOp.bare o).task.d), .int .i64 ((GOp.bare o).task.t), .int .i64 ((GOp.bare o).task.m), .bool ((GOp.bare o).sv), .int .i64 0, .int .i64 ((GOp.bare o).c), .int .i64 ((GOp.bare o).m)]) hb41) (k := ?_)
      refine WL.store (v := .agg #[.int .i64 ((GOp.bare o).kind), .int .i64 r38, .int .i64 ((GOp.bare o).task.c), .int .i64 ((GOp.bare o).task.d), .int .i64 ((GOp.bare o).task.t), .int .i64 ((GOp.bare o).task.m), .bool ((GOp.bare o).sv), .int .i64 0, .int .i64 ((GOp.bare o).c), .int .i64 ((GOp.bare o).m)]) (i := 0) (cs' := #[.int .i64 ((GOp.bare o).kind), .int .i64 r38, .int .i64 ((GOp.bare o).task.c), .int .i64 ((GOp.bare o).task.d), .int .i64 ((GOp.bare o).task.t), .int .i64 ((GOp.bare o).task.m), .bool ((GOp.bare o).sv), .int .i64 0, .int .i64 ((GOp.bare o).c), .int .i64 ((GOp.bare o).m)]) hb10 (k := fun w50 hb51 k52 => ?_)
      replace hb4 := k52.heap hb4 n13
      replace hb41 := k52.heap hb41 (Ne.symm n23)
      replace K := K.trans' k52 (fun i hi e => absurd (e ▸ hi) (Nat.not_lt.2 z12))
      clear hb10
      refine WL.nil ?_
      refine WX.seqN ?_
      refine WC.ret ?_
      refine WX.ret (rs := [.cell 2 46]) [.agg #[.int .i64 ((GOp.bare o).kind), .int .i64 r38, .int .i64 ((GOp.bare o).task.c), .int .i64 ((GOp.bare o).task.d), .int .i64 ((GOp.bare o).task.t), .int .i64 ((GOp.bare o).task.m), .bool ((GOp.bare o).sv), .int .i64 0, .int .i64 ((GOp.bare o).c), .int .i64 ((GOp.bare o).m)]] (.agg #[.int .i64 ((GOp.bare o).kind), .int .i64 r38, .int .i64 ((GOp.bare o).task.c), .int .i64 ((GOp.bare o).task.d), .int .i64 ((GOp.bare o).task.t), .int .i64 ((GOp.bare o).task.m), .bool ((GOp.bare o).sv), .int .i64 0, .int .i64 ((GOp.bare o).c), .int .i64 ((GOp.bare o).m)]) ⟨⟨_, (by kernel_rfl), ldN (T := 46) (i := 0) (m := 10) (l := [.int .i64 ((GOp.bare o).kind), .int .i64 r38, .int .i64 ((GOp.bare o).task.c), .int .i64 ((GOp.bare o).task.d), .int .i64 ((GOp.bare o).task.t), .int .i64 ((GOp.bare o).task.m), .bool ((GOp.bare o).sv), .int .i64 0, .int .i64 ((GOp.bare o).c), .int .i64 ((GOp.bare o).m)]) hb51⟩, trivial⟩ (k := ?_)
      exact ⟨by simp [nearOp, nearI, GOp.val, ph33, ph43, e29, e39], K⟩
  · have ph33 := ne_of_beq_false h33
    refine WC.skip ?_
    refine WX.seqN ?_
    refine WC.seq ?_
    refine WC.seq ?_
    refine WC.region ?_
    refine WL.op (d := 22) (.pointer (some ⟨b16, 0, none⟩)) (k := ?_)
    refine WL.load (v := .int .i64 ((GOp.bare o).kind)) (ld1 (T := 3) (i := 0) hb31) (k := ?_)
    refine WL.op (d := 24) (.bool (((GOp.bare o).kind) == 4)) (k := ?_)
    refine WL.nil ?_
    refine WX.seqN ?_
    refine WC.cond (b := ((GOp.bare o).kind) == 4) (ht := fun h53 => ?_) (hf := fun h53 => ?_)
    · have ph53 := eq_of_beq h53
      refine WC.region ?_
      refine WL.op (d := 25) (.pointer (some ⟨b16, 7, none⟩)) (k := ?_)
      refine WL.store (v := .int .i64 0) (i := 7) (cs' := #[.int .i64 ((GOp.bare o).kind), .int .i64 ((GOp.bare o).task.id), .int .i64 ((GOp.bare o).task.c), .int .i64 ((GOp.bare o).task.d), .int .i64 ((GOp.bare o).task.t), .int .i64 ((GOp.bare o).task.m), .bool ((GOp.bare o).sv), .int .i64 0, .int .i64 ((GOp.bare o).c), .int .i64 ((GOp.bare o).m)]) hb31 (k := fun w54 hb55 k56 => ?_)
      replace hb4 := k56.heap hb4 n22
      replace hb10 := k56.heap hb10 n23
      replace K := K.trans' k56 (fun i hi e => absurd (e ▸ hi) (Nat.not_lt.2 z21))
      clear hb31
      refine WL.nil ?_
      refine WX.seqN ?_
      refine WC.seq ?_
      refine WC.region ?_
      refine WL.load (v := .agg #[.int .i64 ((GOp.bare o).kind), .int .i64 ((GOp.bare o).task.id), .int .i64 ((GOp.bare o).task.c), .int .i64 ((GOp.bare o).task.d), .int .i64 ((GOp.bare o).task.t), .int .i64 ((GOp.bare o).task.m), .bool ((GOp.bare o).sv), .int .i64 0, .int .i64 ((GOp.bare o).c), .int .i64 ((GOp.bare o).m)]) (ldN (T := 46) (i := 0) (m := 10) (l := [.int .i64 ((GOp.bare o).kind), .int .i64 ((GOp.bare o).task.id), .int .i64 ((GOp.bare o).task.c), .int .i64 ((GOp.bare o).task.d), .int .i64 ((GOp.bare o).task.t), .int .i64 ((GOp.bare o).task.m), .bool ((GOp.bare o).sv), .int .i64 0, .int .i64 ((GOp.bare o).c), .int .i64 ((GOp.bare o).m)]) hb55) (k := ?_)
      refine WL.store (v := .agg #[.int .i64 ((GOp.bare o).kind), .int .i64 ((GOp.bare o).task.id), .int .i64 ((GOp.bare o).task.c), .int .i64 ((GOp.bare o).task.d), .int .i64 ((GOp.bare o).task.t), .int .i64 ((GOp.bare o).task.m), .bool ((GOp.bare o).sv), .int .i64 0, .int .i64 ((GOp.bare o).c), .int .i64 ((GOp.bare o).m)]) (i := 0) (cs' := #[.int .i64 ((GOp.bare o).kind), .int .i64 ((GOp.bare o).task.id), .int .i64 ((GOp.bare o).task.c), .int .i64 ((GOp.bare o).task.d), .int .i64 ((GOp.bare o).task.t), .int .i64 ((GOp.bare o).task.m), .bool ((GOp.bare o).sv), .int .i64 0, .int .i64 ((GOp.bare o).c), .int .i64 ((GOp.bare o).m)]) hb10 (k := fun w57 hb58 k59 => ?_)
      replace hb4 := k59.heap hb4 n13
      replace hb55 := k59.heap hb55 (Ne.symm n23)
      replace K := K.trans' k59 (fun i hi e => absurd (e ▸ hi) (Nat.not_lt.2 z12))
      clear hb10
      refine WL.nil ?_
      refine WX.seqN ?_
      refine WC.ret ?_
      refine WX.ret (rs := [.cell 2 46]) [.agg #[.int .i64 ((GOp.bare o).kind), .int .i64 ((GOp.bare o).task.id), .int .i64 ((GOp.bare o).task.c), .int .i64 ((GOp.bare o).task.d), .int .i64 ((GOp.bare o).task.t), .int .i64 ((GOp.bare o).task.m), .bool ((GOp.bare o).sv), .int .i64 0, .int .i64 ((GOp.bare o).c), .int .i64 ((GOp.bare o).m)]] (.agg #[.int .i64 ((GOp.bare o).kind), .int .i64 ((GOp.bare o).task.id), .int .i64 ((GOp.bare o).task.c), .int .i64 ((GOp.bare o).task.d), .int .i64 ((GOp.bare o).task.t), .int .i64 ((GOp.bare o).task.m), .bool ((GOp.bare o).sv), .int .i64 0, .int .i64 ((GOp.bare o).c), .int .i64 ((GOp.bare o).m)]) ⟨⟨_, (by kernel_rfl), ldN (T := 46) (i := 0) (m := 10) (l := [.int .i64 ((GOp.bare o).kind), .int .i64 ((GOp.bare o).task.id), .int .i64 ((GOp.bare o).task.c), .int .i64 ((GOp.bare o).task.d), .int .i64 ((GOp.bare o).task.t), .int .i64 ((GOp.bare o).task.m), .bool ((GOp.bare o).sv), .int .i64 0, .int .i64 ((GOp.bare o).c), .int .i64 ((GOp.bare o).m)]) hb58⟩, trivial⟩ (k := ?_)
      exact ⟨by simp [nearOp, nearI, GOp.val, ph33, ph53, e29], K⟩
    · have ph53 := ne_of_beq_false h53
      refine WC.skip ?_
      refine WX.seqN ?_
      refine WC.seq ?_
      refine WC.region ?_
      refine WL.load (v := .agg #[.int .i64 ((GOp.bare o).kind), .int .i64 ((GOp.bare o).task.id), .int .i64 ((GOp.bare o).task.c), .int .i64 ((GOp.bare o).task.d), .int .i64 ((GOp.bare o).task.t), .int .i64 ((GOp.bare o).task.m), .bool ((GOp.bare o).sv), .int .i64 r28, .int .i64 ((GOp.bare o).c), .int .i64 ((GOp.bare o).m)]) (ldN (T := 46) (i := 0) (m := 10) (l := [.int .i64 ((GOp.bare o).kind), .int .i64 ((GOp.bare o).task.id), .int .i64 ((GOp.bare o).task.c), .int .i64 ((GOp.bare o).task.d), .int .i64 ((GOp.bare o).task.t), .int .i64 ((GOp.bare o).task.m), .bool ((GOp.bare o).sv), .int .i64 r28, .int .i64 ((GOp.bare o).c), .int .i64 ((GOp.bare o).m)]) hb31) (k := ?_)
      refine WL.store (v := .agg #[.int .i64 ((GOp.bare o).kind), .int .i64 ((GOp.bare o).task.id), .int .i64 ((GOp.bare o).task.c), .int .i64 ((GOp.bare o).task.d), .int .i64 ((GOp.bare o).task.t), .int .i64 ((GOp.bare o).task.m), .bool ((GOp.bare o).sv), .int .i64 r28, .int .i64 ((GOp.bare o).c), .int .i64 ((GOp.bare o).m)]) (i := 0) (cs' := #[.int .i64 ((GOp.bare o).kind), .int .i64 ((GOp.bare o).task.id), .int .i64 ((GOp.bare o).task.c), .int .i64 ((GOp.bare o).task.d), .int .i64 ((GOp.bare o).task.t), .int .i64 ((GOp.bare o).task.m), .bool ((GOp.bare o).sv), .int .i64 r28, .int .i64 ((GOp.bare o).c), .int .i64 ((GOp.bare o).m)]) hb10 (k := fun w60 hb61 k62 => ?_)
      replace hb4 := k62.heap hb4 n13
      replace hb31 := k62.heap hb31 (Ne.symm n23)
      replace K := K.trans' k62 (fun i hi e => absurd (e ▸ hi) (Nat.not_lt.2 z12))
      clear hb10
      refine WL.nil ?_
      refine WX.seqN ?_
      refine WC.ret ?_
      refine WX.ret (rs := [.cell 2 46]) [.agg #[.int .i64 ((GOp.bare o).kind), .int .i64 ((GOp.bare o).task.id), .int .i64 ((GOp.bare o).task.c), .int .i64 ((GOp.bare o).task.d), .int .i64 ((GOp.bare o).task.t), .int .i64 ((GOp.bare o).task.m), .bool ((GOp.bare o).sv), .int .i64 r28, .int .i64 ((GOp.bare o).c), .int .i64 ((GOp.bare o).m)]] (.agg #[.int .i64 ((GOp.bare o).kind), .int .i64 ((GOp.bare o).task.id), .int .i64 ((GOp.bare o).task.c), .int .i64 ((GOp.bare o).task.d), .int .i64 ((GOp.bare o).task.t), .int .i64 ((GOp.bare o).task.m), .bool ((GOp.bare o).sv), .int .i64 r28, .int .i64 ((GOp.bare o).c), .int .i64 ((GOp.bare o).m)]) ⟨⟨_, (by kernel_rfl), ldN (T := 46) (i := 0) (m := 10) (l := [.int .i64 ((GOp.bare o).kind), .int .i64 ((GOp.bare o).task.id), .int .i64 ((GOp.bare o).task.c), .int .i64 ((GOp.bare o).task.d), .int .i64 ((GOp.bare o).task.t), .int .i64 ((GOp.bare o).task.m), .bool ((GOp.bare o).sv), .int .i64 r28, .int .i64 ((GOp.bare o).c), .int .i64 ((GOp.bare o).m)]) hb61⟩, trivial⟩ (k := ?_)
      exact ⟨by simp [nearOp, nearI, GOp.val, ph33, ph53, e29], K⟩

set_option maxRecDepth 100000 in
theorem l14made_c {L : Option Addr} {lc : Nat} {l : List GOp} {w : World} (hL : SlAt opC 10 46 L l w) (hl : l.length ≤ 9223372036854775807) : Calls Try.prog 18 #[.slice L l.length lc] w fun e w' => ∃ A c, e = .returned (.agg #[.slice A (madeT l).rows.length c, .int .i64 (madeT l).mode]) ∧ OwAt rowC 6 53 A c (madeT l).rows w' ∧ Adds w w' ∧ (∀ i, blk A = some i → w.heap.size ≤ i) := by
  have K : Keeps (fun _ => False) w w := Keeps.refl _ w
  refine Calls.start Try.func18 rfl (by kernel_rfl) ?_
  refine WC.seq ?_
  refine WC.region ?_
  refine WL.new (d := 2) (T := 24) #[.slice none 0 0, .int .i64 0] (k := fun b1 w2 g3 hb4 k5 => ?_)
  have z6 := Nat.le_trans K.size g3
  replace K := K.trans (k5.any _)
  refine WL.nil ?_
  refine WX.seqN ?_
  refine WC.seq ?_
  refine WC.region ?_
  refine WL.op (d := 7) (.agg #[.slice none 0 0, .int .i64 0]) (k := ?_)
  refine WL.new (d := 3) (T := 24) #[.slice none 0 0, .int .i64 0] (k := fun b7 w8 g9 hb10 k11 => ?_)
  have z12 := Nat.le_trans K.size g9
  have n13 : b1 ≠ b7 := Nat.ne_of_lt (Nat.lt_of_lt_of_le (lt_of_heap hb4) g9)
  replace hb4 := k11.heap hb4 id
  replace K := K.trans (k11.any _)
  refine WL.store (v := .agg #[.slice none 0 0, .int .i64 0]) (i := 0) (cs' := #[.slice none 0 0, .int .i64 0]) hb10 (k := fun w14 hb15 k16 => ?_)
  replace hb4 := k16.heap hb4 n13
  replace K := K.trans' k16 (fun i hi e => absurd (e ▸ hi) (Nat.not_lt.2 z12))
  clear hb10
  refine WL.nil ?_
  refine WX.seqN ?_
  refine WC.seq ?_
  refine WC.seq ?_
  refine WC.region ?_
  refine WL.op (d := 4) (.int .i64 0) (k := ?_)
  refine WL.nil ?_
  refine WX.seqN ?_
  refine WC.block ?_
  refine WC.loop (ι := Int × (Option Addr) × Nat) (fun (⟨i, Ao, co⟩ : Int × (Option Addr) × Nat) => [(0, .slice L l.length lc), (2, .pointer (some ⟨b1, 0, none⟩)), (7, .agg #[.slice none 0 0, .int .i64 0]), (3, .pointer (some ⟨b7, 0, none⟩)), (4, .int .i64 i)]) (fun (⟨i, Ao, co⟩ : Int × (Option Addr) × Nat) (w_ : World) => (Keeps (fun _ => False) w w_) ∧ (w_.heap[b1]? = some (.cells #[.slice none 0 0, .int .i64 0] 24 (0, 0))) ∧ (w_.heap[b7]? = some (.cells #[.slice Ao (((madeU l i).rows).length) co, .int .i64 ((madeU l i).mode)] 24 (0, 0))) ∧ (OwAt rowC 6 53 Ao co ((madeU l i).rows) w_) ∧ (∀ i, blk Ao = some i → w.heap.size ≤ i) ∧ (0 ≤ i) ∧ (i ≤ l.length) ∧ (i ≤ 24)) (fun (⟨i, Ao, co⟩ : Int × (Option Addr) × Nat) => (l.length - i).toNat) (0, none, 0) ⟨(by kernel_rfl), (by kernel_rfl), (by kernel_rfl), (by kernel_rfl), (by kernel_rfl), trivial⟩ ⟨K, hb4, hb15, OwAt.nil, (by simp [blk]), Int.le_refl 0, (by omega), (by decide)⟩ ?_
  rintro ⟨i, Ao, co⟩ w17 ⟨K, hb18, hb19, hb20, ol21, i0, i1, i2⟩
  have lm_ := madeU_len l i
  refine WC.seq ?_
  refine WC.seq ?_
  refine WC.region ?_
  refine WL.op (d := 8) (.int .i64 i) (k := ?_)
  refine WL.op (d := 9) (.slice L l.length lc) (k := ?_)
  refine WL.op (d := 10) (.int .i64 (l.length : Int)) (k := ?_)
  refine WL.op (d := 11) (.bool (decide (i < (l.length : Int)))) (k := ?_)
  refine WL.op (d := 12) (.bool (decide (i < (l.length : Int)))) (k := ?_)
  refine bsplit (decide (i < (l.length : Int))) (fun h22 => ?_) (fun h22 => ?_)
  · have ph22 := of_decide_eq_true h22
    refine WL.rw (t := 12) (v := .bool true) (congrArg Value.bool h22) (k := ?_)
    refine WL.op (d := 13) (.int .i64 i) (k := ?_)
    refine WL.op (d := 14) (.bool (decide (i < 24))) (k := ?_)
    refine WL.op (d := 15) (.bool (decide (i < 24))) (k := ?_)
    refine WL.nil ?_
    refine WX.seqN ?_
    refine WC.cond (b := decide (i < 24)) (ht := fun h23 => ?_) (hf := fun h23 => ?_)
    · have ph23 := of_decide_eq_true h23
      refine WC.skip ?_
      refine WX.seqN ?_
      refine WC.seq ?_
      refine WC.block ?_
      refine WC.seq ?_
      refine WC.mixed (fun _ => False) 12 (k := fun w24 k25 => ?_)
      replace hb18 := k25.heap hb18 id
      replace hb19 := k25.heap hb19 id
      replace hb20 := hb20.adds k25
      replace K := K.trans (k25.any _)
      have KC := Keeps.refl (fun _ => False) w24
      have bh26 := hb18
      have bh27 := hb19
      have Kb := K
      refine WA.quietR 0 (d := 19) (.agg #[.slice Ao (((madeU l i).rows).length) co, .int .i64 ((madeU l i).mode)]) KC (exec_load (fun w_ k_ => ldN (T := 24) (i := 0) (m := 2) (l := [.slice Ao (((madeU l i).rows).length) co, .int .i64 ((madeU l i).mode)]) (k_.heap bh27 id))) (hi := rfl) (k := ?_)
      refine WA.quiet 1 (d := 20) (.slice L l.length lc) KC (hi := rfl) (k := ?_)
      refine WA.quiet 2 (d := 21) (.int .i64 i) KC (hi := rfl) (k := ?_)
      obtain ⟨b28, o29, r30, hr31, hA32, he33⟩ := SlAt.at hL (i := i) (by omega) (by omega)
      refine WA.rw (t := 20) (v := .slice (some ⟨b28, o29, none⟩) l.length lc) (congrArg (fun a => Value.slice a l.length lc) hA32) (k := ?_)
      refine WA.quietR 3 (d := 22) (.pointer (some ⟨b28, o29 + (i).toNat * 10, none⟩)) KC (exec_idx (T := 25) (E := 46) (m := 10) (b := b28) (o := o29) (len := l.length) (cap := lc) (i := i) (kk := .i64) (by omega) (by omega)) (hi := rfl) (k := ?_)
      refine WA.rw (t := 20) (v := .slice L l.length lc) (congrArg (fun a => Value.slice a l.length lc) (Eq.symm hA32)) (k := ?_)
      refine WA.quietR 4 (d := 23) (GOp.val r30) KC (exec_load (fun w_ k_ => ((he33.adds Kb).adds k_).ldW (T := 46))) (hi := rfl) (k := ?_)
      refine WA.step2 5 10 (hi := rfl) (hj := rfl) (k1 := ?_) (k2 := ?_)
      · refine WL.callG (d := 24) (f := 28) (args := #[GOp.val r30]) (l14near_c r30 w24) (k := fun e_ w34 h_ => ⟨GOp.val (nearOp r30), h_.1, ?_⟩)
        have k35 := h_.2; clear h_
        replace hb18 := k35.heap hb18 id
        replace hb19 := k35.heap hb19 id
        replace hb20 := hb20.adds k35
        replace K := K.trans (k35.any _)
        replace KC := KC.trans (k35.any _)
        refine WL.nil ?_
        refine WX.nxt KC ?_
        refine WA.step2 6 10 (hi := rfl) (hj := rfl) (k1 := ?_) (k2 := ?_)
        · have oc36 := SlAt.cell hb20
          refine WL.callG (d := 25) (f := 54) (args := #[.agg #[.slice Ao (((madeU l i).rows).length) co, .int .i64 ((madeU l i).mode)], GOp.val (nearOp r30)]) (u14Apply_c (cp := co) (hb20.sl ekRow) (by omega) (by omega) ((madeU l i).mode) (nearOp r30)) (k := fun e_ w37 h_ => ?_)
          obtain ⟨A38, c39, rfl, ho40, k41, ol42⟩ := h_
          refine ⟨_, rfl, ?_⟩
          have ol43 := fun i h => Nat.le_trans K.size (ol42 i h)
          replace hb18 := k41.heap hb18 id
          replace hb19 := k41.heap hb19 id
          replace hb20 := hb20.adds k41
          replace K := K.trans (k41.any _)
          replace KC := KC.trans (k41.any _)
          clear ol42
          have al44 := applyT_len (madeU l i) (nearOp r30)
          refine WL.nil ?_
          refine WX.nxt KC ?_
          refine WA.quiet 7 (d := 18) (.tuple #[.agg #[.slice A38 (((applyT (madeU l i) (nearOp r30)).1.rows).length) c39, .int .i64 ((applyT (madeU l i) (nearOp r30)).1.mode)], .int .i64 ((applyT (madeU l i) (nearOp r30)).2)]) KC (hi := rfl) (k := ?_)
          refine WA.quiet 8 (d := 26) (.agg #[.slice A38 (((applyT (madeU l i) (nearOp r30)).1.rows).length) c39, .int .i64 ((applyT (madeU l i) (nearOp r30)).1.mode)]) KC (hi := rfl) (k := ?_)
          refine WA.quiet 9 (d := 27) (.int .i64 ((applyT (madeU l i) (nearOp r30)).2)) KC (hi := rfl) (k := ?_)
          refine WA.step 10 (hi := rfl) (k := ?_)
          refine WL.new (d := 5) (T := 24) #[.slice none 0 0, .int .i64 0] (k := fun b45 w46 g47 hb48 k49 => ?_)
          have z50 := Nat.le_trans K.size g47
          have zc51 := Nat.le_trans KC.size g47
          have n52 : b1 ≠ b45 := Nat.ne_of_lt (Nat.lt_of_lt_of_le (lt_of_heap hb18) g47)
          have n53 : b7 ≠ b45 := Nat.ne_of_lt (Nat.lt_of_lt_of_le (lt_of_heap hb19) g47)
          replace hb18 := k49.heap hb18 id
          replace hb19 := k49.heap hb19 id
          replace hb20 := hb20.adds k49
          replace ho40 := ho40.adds k49
          replace K := K.trans (k49.any _)
          replace KC := KC.trans (k49.any _)
          refine WL.nil ?_
          refine WX.nxt KC ?_
          refine WA.step 11 (hi := rfl) (k := ?_)
          refine WL.store (v := .agg #[.slice A38 (((applyT (madeU l i) (nearOp r30)).1.rows).length) c39, .int .i64 ((applyT (madeU l i) (nearOp r30)).1.mode)]) (i := 0) (cs' := #[.slice A38 (((applyT (madeU l i) (nearOp r30)).1.rows).length) c39, .int .i64 ((applyT (madeU l i) (nearOp r30)).1.mode)]) hb48 (k := fun w54 hb55 k56 => ?_)
          replace hb18 := k56.heap hb18 n52
          replace hb19 := k56.heap hb19 n53
          replace hb20 := hb20.keeps k56 (fun i hi e => (hb20.offT hb48 (by decide)) (e ▸ hi))
          replace ho40 := ho40.keeps k56 (fun i hi e => (ho40.offT hb48 (by decide)) (e ▸ hi))
          replace K := K.trans' k56 (fun i hi e => absurd (e ▸ hi) (Nat.not_lt.2 z50))
          replace KC := KC.trans' k56 (fun i hi e => absurd (e ▸ hi) (Nat.not_lt.2 zc51))
          clear hb48
          refine WL.nil ?_
          refine WX.nxt KC ?_
          refine WA.step 12 (hi := rfl) (k := ?_)
          refine WL.op (d := 6) (.int .i64 ((applyT (madeU l i) (nearOp r30)).2)) (k := ?_)
          refine WL.nil ?_
          refine WX.nxtL ?_
          refine WA.done (k := ?_)
          clear KC
          refine WX.seqN ?_
          refine WC.seq ?_
          refine WC.region ?_
          refine WL.op (d := 28) (.int .i64 ((applyT (madeU l i) (nearOp r30)).2)) (k := ?_)
          refine WL.op (d := 29) (.bool (((applyT (madeU l i) (nearOp r30)).2) == 0)) (k := ?_)
          refine WL.nil ?_
          refine WX.seqN ?_
          refine WC.cond (b := ((applyT (madeU l i) (nearOp r30)).2) == 0) (ht := fun h57 => ?_) (hf := fun h57 => ?_)
          · have ph57 := eq_of_beq h57
            refine WC.region ?_
            refine WL.load (v := .agg #[.slice A38 (((applyT (madeU l i) (nearOp r30)).1.rows).length) c39, .int .i64 ((applyT (madeU l i) (nearOp r30)).1.mode)]) (ldN (T := 24) (i := 0) (m := 2) (l := [.slice A38 (((applyT (madeU l i) (nearOp r30)).1.rows).length) c39, .int .i64 ((applyT (madeU l i) (nearOp r30)).1.mode)]) hb55) (k := ?_)
            refine WL.store (v := .agg #[.slice A38 (((applyT (madeU l i) (nearOp r30)).1.rows).length) c39, .int .i64 ((applyT (madeU l i) (nearOp r30)).1.mode)]) (i := 0) (cs' := #[.slice A38 (((applyT (madeU l i) (nearOp r30)).1.rows).length) c39, .int .i64 ((applyT (madeU l i) (nearOp r30)).1.mode)]) hb19 (k := fun w58 hb59 k60 => ?_)
            replace hb18 := k60.heap hb18 n13
            replace hb20 := hb20.keeps k60 (fun i hi e => (hb20.offT hb19 (by decide)) (e ▸ hi))
            replace ho40 := ho40.keeps k60 (fun i hi e => (ho40.offT hb19 (by decide)) (e ▸ hi))
            replace hb55 := k60.heap hb55 (Ne.symm n53)
            replace K := K.trans' k60 (fun i hi e => absurd (e ▸ hi) (Nat.not_lt.2 z12))
            clear hb19
            refine WL.nil ?_
            refine WX.blockN ?_
            refine WX.seqN ?_
            refine WC.region ?_
            refine WL.op (d := 16) (.int .i64 i) (k := ?_)
            refine WL.opE (d := 17) (.int .i64 (IntKind.i64.wrap (i + 1))) (v := .int .i64 (i + 1)) (congrArg (Value.int .i64) (IntWalk.i64_in _ (by omega))) (k := ?_)
            refine WL.op (d := 4) (.int .i64 (i + 1)) (k := ?_)
            refine WL.nil ?_
            have em_ : (applyT (madeU l i) (nearOp r30)).1 = madeU l (i + 1) := madeU_yes i0 hr31 ph57
            rw [em_] at ho40 hb59
            refine WX.round (i + 1, A38, c39) (by show (l.length - (i + 1)).toNat < (l.length - i).toNat; omega) ⟨(by kernel_rfl), (by kernel_rfl), (by kernel_rfl), (by kernel_rfl), (by kernel_rfl), trivial⟩ ⟨K, hb18, hb59, ho40, ol43, (by omega), (by omega), (by omega)⟩
          · have ph57 := ne_of_beq_false h57
            refine WC.skip ?_
            refine WX.blockN ?_
            refine WX.seqN ?_
            refine WC.region ?_
            refine WL.op (d := 16) (.int .i64 i) (k := ?_)
            refine WL.opE (d := 17) (.int .i64 (IntKind.i64.wrap (i + 1))) (v := .int .i64 (i + 1)) (congrArg (Value.int .i64) (IntWalk.i64_in _ (by omega))) (k := ?_)
            refine WL.op (d := 4) (.int .i64 (i + 1)) (k := ?_)
            refine WL.nil ?_
            have em_ : madeU l i = madeU l (i + 1) := madeU_no i0 hr31 ph57
            rw [em_] at hb20 hb19
            refine WX.round (i + 1, Ao, co) (by show (l.length - (i + 1)).toNat < (l.length - i).toNat; omega) ⟨(by kernel_rfl), (by kernel_rfl), (by kernel_rfl), (by kernel_rfl), (by kernel_rfl), trivial⟩ ⟨K, hb18, hb19, hb20, ol21, (by omega), (by omega), (by omega)⟩
        · refine WL.new (d := 5) (T := 24) #[.slice none 0 0, .int .i64 0] (k := fun b61 w62 g63 hb64 k65 => ?_)
          have z66 := Nat.le_trans K.size g63
          have zc67 := Nat.le_trans KC.size g63
          have n68 : b1 ≠ b61 := Nat.ne_of_lt (Nat.lt_of_lt_of_le (lt_of_heap hb18) g63)
          have n69 : b7 ≠ b61 := Nat.ne_of_lt (Nat.lt_of_lt_of_le (lt_of_heap hb19) g63)
          replace hb18 := k65.heap hb18 id
          replace hb19 := k65.heap hb19 id
          replace hb20 := hb20.adds k65
          replace K := K.trans (k65.any _)
          replace KC := KC.trans (k65.any _)
          refine WL.nil ?_
          refine WX.nxt KC ?_
          refine WA.step 6 (hi := rfl) (k := ?_)
          have oc70 := SlAt.cell hb20
          refine WL.callG (d := 25) (f := 54) (args := #[.agg #[.slice Ao (((madeU l i).rows).length) co, .int .i64 ((madeU l i).mode)], GOp.val (nearOp r30)]) (u14Apply_c (cp := co) (hb20.sl ekRow) (by omega) (by omega) ((madeU l i).mode) (nearOp r30)) (k := fun e_ w71 h_ => ?_)
          obtain ⟨A72, c73, rfl, ho74, k75, ol76⟩ := h_
          refine ⟨_, rfl, ?_⟩
          have ol77 := fun i h => Nat.le_trans K.size (ol76 i h)
          replace hb18 := k75.heap hb18 id
          replace hb19 := k75.heap hb19 id
          replace hb20 := hb20.adds k75
          replace hb64 := k75.heap hb64 id
          replace K := K.trans (k75.any _)
          replace KC := KC.trans (k75.any _)
          clear ol76
          have al78 := applyT_len (madeU l i) (nearOp r30)
          refine WL.nil ?_
          refine WX.nxt KC ?_
          refine WA.quiet 7 (d := 18) (.tuple #[.agg #[.slice A72 (((applyT (madeU l i) (nearOp r30)).1.rows).length) c73, .int .i64 ((applyT (madeU l i) (nearOp r30)).1.mode)], .int .i64 ((applyT (madeU l i) (nearOp r30)).2)]) KC (hi := rfl) (k := ?_)
          refine WA.quiet 8 (d := 26) (.agg #[.slice A72 (((applyT (madeU l i) (nearOp r30)).1.rows).length) c73, .int .i64 ((applyT (madeU l i) (nearOp r30)).1.mode)]) KC (hi := rfl) (k := ?_)
          refine WA.quiet 9 (d := 27) (.int .i64 ((applyT (madeU l i) (nearOp r30)).2)) KC (hi := rfl) (k := ?_)
          refine WA.step 11 (hi := rfl) (k := ?_)
          refine WL.store (v := .agg #[.slice A72 (((applyT (madeU l i) (nearOp r30)).1.rows).length) c73, .int .i64 ((applyT (madeU l i) (nearOp r30)).1.mode)]) (i := 0) (cs' := #[.slice A72 (((applyT (madeU l i) (nearOp r30)).1.rows).length) c73, .int .i64 ((applyT (madeU l i) (nearOp r30)).1.mode)]) hb64 (k := fun w79 hb80 k81 => ?_)
          replace hb18 := k81.heap hb18 n68
          replace hb19 := k81.heap hb19 n69
          replace hb20 := hb20.keeps k81 (fun i hi e => (hb20.offT hb64 (by decide)) (e ▸ hi))
          replace ho74 := ho74.keeps k81 (fun i hi e => (ho74.offT hb64 (by decide)) (e ▸ hi))
          replace K := K.trans' k81 (fun i hi e => absurd (e ▸ hi) (Nat.not_lt.2 z66))
          replace KC := KC.trans' k81 (fun i hi e => absurd (e ▸ hi) (Nat.not_lt.2 zc67))
          clear hb64
          refine WL.nil ?_
          refine WX.nxt KC ?_
          refine WA.step 12 (hi := rfl) (k := ?_)
          refine WL.op (d := 6) (.int .i64 ((applyT (madeU l i) (nearOp r30)).2)) (k := ?_)
          refine WL.nil ?_
          refine WX.nxtL ?_
          refine WA.done (k := ?_)
          clear KC
          refine WX.seqN ?_
          refine WC.seq ?_
          refine WC.region ?_
          refine WL.op (d := 28) (.int .i64 ((applyT (madeU l i) (nearOp r30)).2)) (k := ?_)
          refine WL.op (d := 29) (.bool (((applyT (madeU l i) (nearOp r30)).2) == 0)) (k := ?_)
          refine WL.nil ?_
          refine WX.seqN ?_
          refine WC.cond (b := ((applyT (madeU l i) (nearOp r30)).2) == 0) (ht := fun h82 => ?_) (hf := fun h82 => ?_)
          · have ph82 := eq_of_beq h82
            refine WC.region ?_
            refine WL.load (v := .agg #[.slice A72 (((applyT (madeU l i) (nearOp r30)).1.rows).length) c73, .int .i64 ((applyT (madeU l i) (nearOp r30)).1.mode)]) (ldN (T := 24) (i := 0) (m := 2) (l := [.slice A72 (((applyT (madeU l i) (nearOp r30)).1.rows).length) c73, .int .i64 ((applyT (madeU l i) (nearOp r30)).1.mode)]) hb80) (k := ?_)
            refine WL.store (v := .agg #[.slice A72 (((applyT (madeU l i) (nearOp r30)).1.rows).length) c73, .int .i64 ((applyT (madeU l i) (nearOp r30)).1.mode)]) (i := 0) (cs' := #[.slice A72 (((applyT (madeU l i) (nearOp r30)).1.rows).length) c73, .int .i64 ((applyT (madeU l i) (nearOp r30)).1.mode)]) hb19 (k := fun w83 hb84 k85 => ?_)
            replace hb18 := k85.heap hb18 n13
            replace hb20 := hb20.keeps k85 (fun i hi e => (hb20.offT hb19 (by decide)) (e ▸ hi))
            replace hb80 := k85.heap hb80 (Ne.symm n69)
            replace ho74 := ho74.keeps k85 (fun i hi e => (ho74.offT hb19 (by decide)) (e ▸ hi))
            replace K := K.trans' k85 (fun i hi e => absurd (e ▸ hi) (Nat.not_lt.2 z12))
            clear hb19
            refine WL.nil ?_
            refine WX.blockN ?_
            refine WX.seqN ?_
            refine WC.region ?_
            refine WL.op (d := 16) (.int .i64 i) (k := ?_)
            refine WL.opE (d := 17) (.int .i64 (IntKind.i64.wrap (i + 1))) (v := .int .i64 (i + 1)) (congrArg (Value.int .i64) (IntWalk.i64_in _ (by omega))) (k := ?_)
            refine WL.op (d := 4) (.int .i64 (i + 1)) (k := ?_)
            refine WL.nil ?_
            have em_ : (applyT (madeU l i) (nearOp r30)).1 = madeU l (i + 1) := madeU_yes i0 hr31 ph82
            rw [em_] at ho74 hb84
            refine WX.round (i + 1, A72, c73) (by show (l.length - (i + 1)).toNat < (l.length - i).toNat; omega) ⟨(by kernel_rfl), (by kernel_rfl), (by kernel_rfl), (by kernel_rfl), (by kernel_rfl), trivial⟩ ⟨K, hb18, hb84, ho74, ol77, (by omega), (by omega), (by omega)⟩
          · have ph82 := ne_of_beq_false h82
            refine WC.skip ?_
            refine WX.blockN ?_
            refine WX.seqN ?_
            refine WC.region ?_
            refine WL.op (d := 16) (.int .i64 i) (k := ?_)
            refine WL.opE (d := 17) (.int .i64 (IntKind.i64.wrap (i + 1))) (v := .int .i64 (i + 1)) (congrArg (Value.int .i64) (IntWalk.i64_in _ (by omega))) (k := ?_)
            refine WL.op (d := 4) (.int .i64 (i + 1)) (k := ?_)
            refine WL.nil ?_
            have em_ : madeU l i = madeU l (i + 1) := madeU_no i0 hr31 ph82
            rw [em_] at hb20 hb19
            refine WX.round (i + 1, Ao, co) (by show (l.length - (i + 1)).toNat < (l.length - i).toNat; omega) ⟨(by kernel_rfl), (by kernel_rfl), (by kernel_rfl), (by kernel_rfl), (by kernel_rfl), trivial⟩ ⟨K, hb18, hb19, hb20, ol21, (by omega), (by omega), (by omega)⟩
      · refine WL.new (d := 5) (T := 24) #[.slice none 0 0, .int .i64 0] (k := fun b86 w87 g88 hb89 k90 => ?_)
        have z91 := Nat.le_trans K.size g88
        have zc92 := Nat.le_trans KC.size g88
        have n93 : b1 ≠ b86 := Nat.ne_of_lt (Nat.lt_of_lt_of_le (lt_of_heap hb18) g88)
        have n94 : b7 ≠ b86 := Nat.ne_of_lt (Nat.lt_of_lt_of_le (lt_of_heap hb19) g88)
        replace hb18 := k90.heap hb18 id
        replace hb19 := k90.heap hb19 id
        replace hb20 := hb20.adds k90
        replace K := K.trans (k90.any _)
        replace KC := KC.trans (k90.any _)
        refine WL.nil ?_
        refine WX.nxt KC ?_
        refine WA.step 5 (hi := rfl) (k := ?_)
        refine WL.callG (d := 24) (f := 28) (args := #[GOp.val r30]) (l14near_c r30 w87) (k := fun e_ w95 h_ => ⟨GOp.val (nearOp r30), h_.1, ?_⟩)
        have k96 := h_.2; clear h_
        replace hb18 := k96.heap hb18 id
        replace hb19 := k96.heap hb19 id
        replace hb20 := hb20.adds k96
        replace hb89 := k96.heap hb89 id
        replace K := K.trans (k96.any _)
        replace KC := KC.trans (k96.any _)
        refine WL.nil ?_
        refine WX.nxt KC ?_
        refine WA.step 6 (hi := rfl) (k := ?_)
        have oc97 := SlAt.cell hb20
        refine WL.callG (d := 25) (f := 54) (args := #[.agg #[.slice Ao (((madeU l i).rows).length) co, .int .i64 ((madeU l i).mode)], GOp.val (nearOp r30)]) (u14Apply_c (cp := co) (hb20.sl ekRow) (by omega) (by omega) ((madeU l i).mode) (nearOp r30)) (k := fun e_ w98 h_ => ?_)
        obtain ⟨A99, c100, rfl, ho101, k102, ol103⟩ := h_
        refine ⟨_, rfl, ?_⟩
        have ol104 := fun i h => Nat.le_trans K.size (ol103 i h)
        replace hb18 := k102.heap hb18 id
        replace hb19 := k102.heap hb19 id
        replace hb20 := hb20.adds k102
        replace hb89 := k102.heap hb89 id
        replace K := K.trans (k102.any _)
        replace KC := KC.trans (k102.any _)
        clear ol103
        have al105 := applyT_len (madeU l i) (nearOp r30)
        refine WL.nil ?_
        refine WX.nxt KC ?_
        refine WA.quiet 7 (d := 18) (.tuple #[.agg #[.slice A99 (((applyT (madeU l i) (nearOp r30)).1.rows).length) c100, .int .i64 ((applyT (madeU l i) (nearOp r30)).1.mode)], .int .i64 ((applyT (madeU l i) (nearOp r30)).2)]) KC (hi := rfl) (k := ?_)
        refine WA.quiet 8 (d := 26) (.agg #[.slice A99 (((applyT (madeU l i) (nearOp r30)).1.rows).length) c100, .int .i64 ((applyT (madeU l i) (nearOp r30)).1.mode)]) KC (hi := rfl) (k := ?_)
        refine WA.quiet 9 (d := 27) (.int .i64 ((applyT (madeU l i) (nearOp r30)).2)) KC (hi := rfl) (k := ?_)
        refine WA.step 11 (hi := rfl) (k := ?_)
        refine WL.store (v := .agg #[.slice A99 (((applyT (madeU l i) (nearOp r30)).1.rows).length) c100, .int .i64 ((applyT (madeU l i) (nearOp r30)).1.mode)]) (i := 0) (cs' := #[.slice A99 (((applyT (madeU l i) (nearOp r30)).1.rows).length) c100, .int .i64 ((applyT (madeU l i) (nearOp r30)).1.mode)]) hb89 (k := fun w106 hb107 k108 => ?_)
        replace hb18 := k108.heap hb18 n93
        replace hb19 := k108.heap hb19 n94
        replace hb20 := hb20.keeps k108 (fun i hi e => (hb20.offT hb89 (by decide)) (e ▸ hi))
        replace ho101 := ho101.keeps k108 (fun i hi e => (ho101.offT hb89 (by decide)) (e ▸ hi))
        replace K := K.trans' k108 (fun i hi e => absurd (e ▸ hi) (Nat.not_lt.2 z91))
        replace KC := KC.trans' k108 (fun i hi e => absurd (e ▸ hi) (Nat.not_lt.2 zc92))
        clear hb89
        refine WL.nil ?_
        refine WX.nxt KC ?_
        refine WA.step 12 (hi := rfl) (k := ?_)
        refine WL.op (d := 6) (.int .i64 ((applyT (madeU l i) (nearOp r30)).2)) (k := ?_)
        refine WL.nil ?_
        refine WX.nxtL ?_
        refine WA.done (k := ?_)
        clear KC
        refine WX.seqN ?_
        refine WC.seq ?_
        refine WC.region ?_
        refine WL.op (d := 28) (.int .i64 ((applyT (madeU l i) (nearOp r30)).2)) (k := ?_)
        refine WL.op (d := 29) (.bool (((applyT (madeU l i) (nearOp r30)).2) == 0)) (k := ?_)
        refine WL.nil ?_
        refine WX.seqN ?_
        refine WC.cond (b := ((applyT (madeU l i) (nearOp r30)).2) == 0) (ht := fun h109 => ?_) (hf := fun h109 => ?_)
        · have ph109 := eq_of_beq h109
          refine WC.region ?_
          refine WL.load (v := .agg #[.slice A99 (((applyT (madeU l i) (nearOp r30)).1.rows).length) c100, .int .i64 ((applyT (madeU l i) (nearOp r30)).1.mode)]) (ldN (T := 24) (i := 0) (m := 2) (l := [.slice A99 (((applyT (madeU l i) (nearOp r30)).1.rows).length) c100, .int .i64 ((applyT (madeU l i) (nearOp r30)).1.mode)]) hb107) (k := ?_)
          refine WL.store (v := .agg #[.slice A99 (((applyT (madeU l i) (nearOp r30)).1.rows).length) c100, .int .i64 ((applyT (madeU l i) (nearOp r30)).1.mode)]) (i := 0) (cs' := #[.slice A99 (((applyT (madeU l i) (nearOp r30)).1.rows).length) c100, .int .i64 ((applyT (madeU l i) (nearOp r30)).1.mode)]) hb19 (k := fun w110 hb111 k112 => ?_)
          replace hb18 := k112.heap hb18 n13
          replace hb20 := hb20.keeps k112 (fun i hi e => (hb20.offT hb19 (by decide)) (e ▸ hi))
          replace hb107 := k112.heap hb107 (Ne.symm n94)
          replace ho101 := ho101.keeps k112 (fun i hi e => (ho101.offT hb19 (by decide)) (e ▸ hi))
          replace K := K.trans' k112 (fun i hi e => absurd (e ▸ hi) (Nat.not_lt.2 z12))
          clear hb19
          refine WL.nil ?_
          refine WX.blockN ?_
          refine WX.seqN ?_
          refine WC.region ?_
          refine WL.op (d := 16) (.int .i64 i) (k := ?_)
          refine WL.opE (d := 17) (.int .i64 (IntKind.i64.wrap (i + 1))) (v := .int .i64 (i + 1)) (congrArg (Value.int .i64) (IntWalk.i64_in _ (by omega))) (k := ?_)
          refine WL.op (d := 4) (.int .i64 (i + 1)) (k := ?_)
          refine WL.nil ?_
          have em_ : (applyT (madeU l i) (nearOp r30)).1 = madeU l (i + 1) := madeU_yes i0 hr31 ph109
          rw [em_] at ho101 hb111
          refine WX.round (i + 1, A99, c100) (by show (l.length - (i + 1)).toNat < (l.length - i).toNat; omega) ⟨(by kernel_rfl), (by kernel_rfl), (by kernel_rfl), (by kernel_rfl), (by kernel_rfl), trivial⟩ ⟨K, hb18, hb111, ho101, ol104, (by omega), (by omega), (by omega)⟩
        · have ph109 := ne_of_beq_false h109
          refine WC.skip ?_
          refine WX.blockN ?_
          refine WX.seqN ?_
          refine WC.region ?_
          refine WL.op (d := 16) (.int .i64 i) (k := ?_)
          refine WL.opE (d := 17) (.int .i64 (IntKind.i64.wrap (i + 1))) (v := .int .i64 (i + 1)) (congrArg (Value.int .i64) (IntWalk.i64_in _ (by omega))) (k := ?_)
          refine WL.op (d := 4) (.int .i64 (i + 1)) (k := ?_)
          refine WL.nil ?_
          have em_ : madeU l i = madeU l (i + 1) := madeU_no i0 hr31 ph109
          rw [em_] at hb20 hb19
          refine WX.round (i + 1, Ao, co) (by show (l.length - (i + 1)).toNat < (l.length - i).toNat; omega) ⟨(by kernel_rfl), (by kernel_rfl), (by kernel_rfl), (by kernel_rfl), (by kernel_rfl), trivial⟩ ⟨K, hb18, hb19, hb20, ol21, (by omega), (by omega), (by omega)⟩
    · have ph23 := of_decide_eq_false h23
      refine WC.exit ?_
      refine WX.seqE ?_
      refine WX.seqE ?_
      refine WX.blockE ?_
      refine WX.seqN ?_
      refine WC.seq ?_
      refine WC.region ?_
      refine WL.load (v := .agg #[.slice Ao (((madeU l i).rows).length) co, .int .i64 ((madeU l i).mode)]) (ldN (T := 24) (i := 0) (m := 2) (l := [.slice Ao (((madeU l i).rows).length) co, .int .i64 ((madeU l i).mode)]) hb19) (k := ?_)
      refine WL.store (v := .agg #[.slice Ao (((madeU l i).rows).length) co, .int .i64 ((madeU l i).mode)]) (i := 0) (cs' := #[.slice Ao (((madeU l i).rows).length) co, .int .i64 ((madeU l i).mode)]) hb18 (k := fun w113 hb114 k115 => ?_)
      replace hb19 := k115.heap hb19 (Ne.symm n13)
      replace hb20 := hb20.keeps k115 (fun i hi e => (hb20.offT hb18 (by decide)) (e ▸ hi))
      replace K := K.trans' k115 (fun i hi e => absurd (e ▸ hi) (Nat.not_lt.2 z6))
      clear hb18
      refine WL.nil ?_
      refine WX.seqN ?_
      refine WC.ret ?_
      refine WX.ret (rs := [.cell 2 24]) [.agg #[.slice Ao (((madeU l i).rows).length) co, .int .i64 ((madeU l i).mode)]] (.agg #[.slice Ao (((madeU l i).rows).length) co, .int .i64 ((madeU l i).mode)]) ⟨⟨_, (by kernel_rfl), ldN (T := 24) (i := 0) (m := 2) (l := [.slice Ao (((madeU l i).rows).length) co, .int .i64 ((madeU l i).mode)]) hb114⟩, trivial⟩ (k := ?_)
      have e_ : madeU l i = madeT l := madeU_end i0 i2 (by omega)
      rw [e_] at hb20 ⊢
      exact ⟨_, _, rfl, hb20, K, ol21⟩
  · have ph22 := of_decide_eq_false h22
    refine WL.rw (t := 12) (v := .bool false) (congrArg Value.bool h22) (k := ?_)
    refine WL.skip (d := 13) (k := ?_)
    refine WL.skip (d := 14) (k := ?_)
    refine WL.op (d := 15) (.bool false) (k := ?_)
    refine WL.nil ?_
    refine WX.seqN ?_
    refine WC.condF (k := ?_)
    refine WC.exit ?_
    refine WX.seqE ?_
    refine WX.seqE ?_
    refine WX.blockE ?_
    refine WX.seqN ?_
    refine WC.seq ?_
    refine WC.region ?_
    refine WL.load (v := .agg #[.slice Ao (((madeU l i).rows).length) co, .int .i64 ((madeU l i).mode)]) (ldN (T := 24) (i := 0) (m := 2) (l := [.slice Ao (((madeU l i).rows).length) co, .int .i64 ((madeU l i).mode)]) hb19) (k := ?_)
    refine WL.store (v := .agg #[.slice Ao (((madeU l i).rows).length) co, .int .i64 ((madeU l i).mode)]) (i := 0) (cs' := #[.slice Ao (((madeU l i).rows).length) co, .int .i64 ((madeU l i).mode)]) hb18 (k := fun w116 hb117 k118 => ?_)
    replace hb19 := k118.heap hb19 (Ne.symm n13)
    replace hb20 := hb20.keeps k118 (fun i hi e => (hb20.offT hb18 (by decide)) (e ▸ hi))
    replace K := K.trans' k118 (fun i hi e => absurd (e ▸ hi) (Nat.not_lt.2 z6))
    clear hb18
    refine WL.nil ?_
    refine WX.seqN ?_
    refine WC.ret ?_
    refine WX.ret (rs := [.cell 2 24]) [.agg #[.slice Ao (((madeU l i).rows).length) co, .int .i64 ((madeU l i).mode)]] (.agg #[.slice Ao (((madeU l i).rows).length) co, .int .i64 ((madeU l i).mode)]) ⟨⟨_, (by kernel_rfl), ldN (T := 24) (i := 0) (m := 2) (l := [.slice Ao (((madeU l i).rows).length) co, .int .i64 ((madeU l i).mode)]) hb117⟩, trivial⟩ (k := ?_)
    have e_ : madeU l i = madeT l := madeU_end i0 i2 (by omega)
    rw [e_] at hb20 ⊢
    exact ⟨_, _, rfl, hb20, K, ol21⟩

end Go.Proofs.Ytpkcohhfkeinmaa
