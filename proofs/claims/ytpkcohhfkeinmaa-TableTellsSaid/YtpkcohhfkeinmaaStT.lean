/- TableTells. -/
import Derived.Test.YtpkcohhfkeinmaaSt9
namespace Go.Proofs.Ytpkcohhfkeinmaa
open Go.RowKit
set_option linter.unusedVariables false
set_option linter.unusedSimpArgs false

theorem tSame_r {A B : Option Addr} {cp cq : Nat} {xs : List GRow} {ma : Int} {w : World} (hA : SlAt rowC 6 53 A xs w) (hB : SlAt rowC 6 53 B xs w) (hn : xs.length ≤ 1000000000) : Calls Try.prog 21 #[.agg #[.slice A xs.length cp, .int .i64 ma], .agg #[.slice B xs.length cq, .int .i64 ma]] w fun e w' => e = .returned (.bool true) ∧ Adds w w' := by
  have h := tSame_c (cp := cp) (cq := cq) (ma := ma) (mb := ma) hA hB hn hn
  simpa using h
theorem u09Same_r {A B : Option Addr} {cp cq : Nat} {xs : List GTask} {w : World} (hA : SlAt taskC 5 44 A xs w) (hB : SlAt taskC 5 44 B xs w) (hn : xs.length ≤ 1000000000) : Calls Try.prog 50 #[.slice A xs.length cp, .slice B xs.length cq] w fun e w' => e = .returned (.bool true) ∧ Adds w w' := by
  have h := u09Same_c (cp := cp) (cq := cq) hA hB hn hn
  simpa using h
theorem keepM_len (md : Int) (rows : List GRow) : (keepL md (rows.map GRow.task)).length ≤ rows.length := by
  have := keepL_len md (rows.map GRow.task); simpa using this

set_option maxRecDepth 100000 in
set_option maxHeartbeats 4000000 in
theorem l14tells14_c {A : Option Addr} {cp : Nat} {rows : List GRow} {md : Int} {w : World} (hA : SlAt rowC 6 53 A rows w) (hn : rows.length ≤ 100000) (q0 q1 : Int) : Calls Try.prog 17 #[.agg #[.slice A rows.length cp, .int .i64 md], .agg #[.int .i64 q0, .int .i64 q1]] w fun e w' => e = .returned (.bool true) ∧ Adds w w' := by
  have K : Keeps (fun _ => False) w w := Keeps.refl _ w
  refine Calls.start Try.func17 rfl (by kernel_rfl) ?_
  refine WC.seq ?_
  refine WC.region ?_
  refine WL.new (d := 2) (T := 24) #[.slice A rows.length cp, .int .i64 md] (k := fun b1 w2 g3 hb4 k5 => ?_)
  have z6 := Nat.le_trans K.size g3
  replace K := K.trans (k5.any _)
  refine WL.new (d := 3) (T := 26) #[.int .i64 q0, .int .i64 q1] (k := fun b7 w8 g9 hb10 k11 => ?_)
  have z12 := Nat.le_trans K.size g9
  have n13 : b1 ≠ b7 := Nat.ne_of_lt (Nat.lt_of_lt_of_le (lt_of_heap hb4) g9)
  replace hb4 := k11.heap hb4 id
  replace K := K.trans (k11.any _)
  refine WL.op (d := 4) (.bool false) (k := ?_)
  refine WL.nil ?_
  refine WX.seqN ?_
  refine WC.seq ?_
  refine WC.region ?_
  refine WL.load (v := .agg #[.slice A rows.length cp, .int .i64 md]) (ldN (T := 24) (i := 0) (m := 2) (l := [.slice A rows.length cp, .int .i64 md]) hb4) (k := ?_)
  refine WL.op (d := 13) (.pointer (some ⟨b7, 0, none⟩)) (k := ?_)
  refine WL.load (v := .int .i64 q0) (ld1 (T := 3) (i := 0) hb10) (k := ?_)
  refine WL.callG (d := 15) (f := 35) (args := #[.agg #[.slice A rows.length cp, .int .i64 md], .int .i64 q0]) (tFind_c (cp := cp) (hA.adds K) (by omega) md q0) (k := fun e_ w14 h_ => ⟨.tuple #[GRow.val (findV rows q0), .bool ((findR rows q0).isSome)], h_.1, ?_⟩)
  have k15 := h_.2; clear h_
  replace hb4 := k15.heap hb4 id
  replace hb10 := k15.heap hb10 id
  replace K := K.trans (k15.any _)
  refine WL.op (d := 11) (.tuple #[GRow.val (findV rows q0), .bool ((findR rows q0).isSome)]) (k := ?_)
  refine WL.op (d := 16) (GRow.val (findV rows q0)) (k := ?_)
  refine WL.op (d := 17) (.bool ((findR rows q0).isSome)) (k := ?_)
  refine WL.new (d := 5) (T := 53) #[.int .i64 0, .int .i64 0, .int .i64 0, .int .i64 0, .int .i64 0, .bool false] (k := fun b16 w17 g18 hb19 k20 => ?_)
  have z21 := Nat.le_trans K.size g18
  have n22 : b1 ≠ b16 := Nat.ne_of_lt (Nat.lt_of_lt_of_le (lt_of_heap hb4) g18)
  have n23 : b7 ≠ b16 := Nat.ne_of_lt (Nat.lt_of_lt_of_le (lt_of_heap hb10) g18)
  replace hb4 := k20.heap hb4 id
  replace hb10 := k20.heap hb10 id
  replace K := K.trans (k20.any _)
  refine WL.store (v := GRow.val (findV rows q0)) (i := 0) (cs' := (Value.cells (GRow.val (findV rows q0)))) hb19 (k := fun w24 hb25 k26 => ?_)
  replace hb4 := k26.heap hb4 n22
  replace hb10 := k26.heap hb10 n23
  replace K := K.trans' k26 (fun i hi e => absurd (e ▸ hi) (Nat.not_lt.2 z21))
  clear hb19
  refine WL.op (d := 6) (.bool ((findR rows q0).isSome)) (k := ?_)
  refine WL.nil ?_
  refine WX.seqN ?_
  refine WC.seq ?_
  refine WC.region ?_
  refine WL.load (v := .agg #[.slice A rows.length cp, .int .i64 md]) (ldN (T := 24) (i := 0) (m := 2) (l := [.slice A rows.length cp, .int .i64 md]) hb4) (k := ?_)
  refine WL.op (d := 20) (.pointer (some ⟨b7, 0, none⟩)) (k := ?_)
  refine WL.load (v := .int .i64 q0) (ld1 (T := 3) (i := 0) hb10) (k := ?_)
  refine WL.callG (d := 22) (f := 49) (args := #[.agg #[.slice A rows.length cp, .int .i64 md], .int .i64 q0]) (u14Find_c (cp := cp) (hA.adds K) (by omega) md q0) (k := fun e_ w27 h_ => ⟨.tuple #[GRow.val (findV rows q0), .bool ((findR rows q0).isSome)], h_.1, ?_⟩)
  have k28 := h_.2; clear h_
  replace hb4 := k28.heap hb4 id
  replace hb10 := k28.heap hb10 id
  replace hb25 := k28.heap hb25 id
  replace K := K.trans (k28.any _)
  refine WL.op (d := 18) (.tuple #[GRow.val (findV rows q0), .bool ((findR rows q0).isSome)]) (k := ?_)
  refine WL.op (d := 23) (GRow.val (findV rows q0)) (k := ?_)
  refine WL.op (d := 24) (.bool ((findR rows q0).isSome)) (k := ?_)
  refine WL.new (d := 7) (T := 53) #[.int .i64 0, .int .i64 0, .int .i64 0, .int .i64 0, .int .i64 0, .bool false] (k := fun b29 w30 g31 hb32 k33 => ?_)
  have z34 := Nat.le_trans K.size g31
  have n35 : b1 ≠ b29 := Nat.ne_of_lt (Nat.lt_of_lt_of_le (lt_of_heap hb4) g31)
  have n36 : b7 ≠ b29 := Nat.ne_of_lt (Nat.lt_of_lt_of_le (lt_of_heap hb10) g31)
  have n37 : b16 ≠ b29 := Nat.ne_of_lt (Nat.lt_of_lt_of_le (lt_of_heap hb25) g31)
  replace hb4 := k33.heap hb4 id
  replace hb10 := k33.heap hb10 id
  replace hb25 := k33.heap hb25 id
  replace K := K.trans (k33.any _)
  refine WL.store (v := GRow.val (findV rows q0)) (i := 0) (cs' := (Value.cells (GRow.val (findV rows q0)))) hb32 (k := fun w38 hb39 k40 => ?_)
  replace hb4 := k40.heap hb4 n35
  replace hb10 := k40.heap hb10 n36
  replace hb25 := k40.heap hb25 n37
  replace K := K.trans' k40 (fun i hi e => absurd (e ▸ hi) (Nat.not_lt.2 z34))
  clear hb32
  refine WL.op (d := 8) (.bool ((findR rows q0).isSome)) (k := ?_)
  refine WL.nil ?_
  refine WX.seqN ?_
  refine WC.seq ?_
  refine WC.mixed (fun _ => False) 5 (k := fun w41 k42 => ?_)
  replace hb4 := k42.heap hb4 id
  replace hb10 := k42.heap hb10 id
  replace hb25 := k42.heap hb25 id
  replace hb39 := k42.heap hb39 id
  replace K := K.trans (k42.any _)
  have KC := Keeps.refl (fun _ => False) w41
  have bh43 := hb4
  have bh44 := hb10
  have bh45 := hb25
  have bh46 := hb39
  have Kb := K
  refine WA.quietR 0 (d := 25) (.agg #[.slice A rows.length cp, .int .i64 md]) KC (exec_load (fun w_ k_ => ldN (T := 24) (i := 0) (m := 2) (l := [.slice A rows.length cp, .int .i64 md]) (k_.heap bh43 id))) (hi := rfl) (k := ?_)
  refine WA.quietR 2 (d := 27) (.agg #[.slice A rows.length cp, .int .i64 md]) KC (exec_load (fun w_ k_ => ldN (T := 24) (i := 0) (m := 2) (l := [.slice A rows.length cp, .int .i64 md]) (k_.heap bh43 id))) (hi := rfl) (k := ?_)
  refine WA.step 1 (hi := rfl) (k := ?_)
  refine WL.callG (d := 26) (f := 51) (args := #[.agg #[.slice A rows.length cp, .int .i64 md]]) (tTasks_c (cp := cp) (md := md) (hA.adds K) (by omega)) (k := fun e_ w47 h_ => ?_)
  obtain ⟨A48, c49, rfl, ho50, k51, ol52⟩ := h_
  refine ⟨_, rfl, ?_⟩
  have ol53 := fun i h => Nat.le_trans K.size (ol52 i h)
  replace hb4 := k51.heap hb4 id
  replace hb10 := k51.heap hb10 id
  replace hb25 := k51.heap hb25 id
  replace hb39 := k51.heap hb39 id
  replace K := K.trans (k51.any _)
  replace KC := KC.trans (k51.any _)
  clear ol52
  refine WL.nil ?_
  refine WX.nxt KC ?_
  refine WA.step 3 (hi := rfl) (k := ?_)
  refine WL.callG (d := 28) (f := 52) (args := #[.agg #[.slice A rows.length cp, .int .i64 md]]) (u14Tasks_c (cp := cp) (md := md) (hA.adds K) (by omega)) (k := fun e_ w54 h_ => ?_)
  obtain ⟨A55, c56, rfl, ho57, k58, ol59⟩ := h_
  refine ⟨_, rfl, ?_⟩
  have ol60 := fun i h => Nat.le_trans K.size (ol59 i h)
  replace hb4 := k58.heap hb4 id
  replace hb10 := k58.heap hb10 id
  replace hb25 := k58.heap hb25 id
  replace hb39 := k58.heap hb39 id
  replace ho50 := ho50.adds k58
  replace K := K.trans (k58.any _)
  replace KC := KC.trans (k58.any _)
  clear ol59
  refine WL.nil ?_
  refine WX.nxt KC ?_
  refine WA.step 4 (hi := rfl) (k := ?_)
  refine WL.callG (d := 29) (f := 50) (args := #[.slice A48 ((List.map GRow.task rows).length) c49, .slice A55 ((List.map GRow.task rows).length) c56]) (u09Same_r (cp := c49) (cq := c56) (ho50.sl ekTask) (ho57.sl ekTask) (by simp; omega)) (k := fun e_ w61 h_ => ⟨.bool true, h_.1, ?_⟩)
  have k62 := h_.2; clear h_
  replace hb4 := k62.heap hb4 id
  replace hb10 := k62.heap hb10 id
  replace hb25 := k62.heap hb25 id
  replace hb39 := k62.heap hb39 id
  replace ho50 := ho50.adds k62
  replace ho57 := ho57.adds k62
  replace K := K.trans (k62.any _)
  replace KC := KC.trans (k62.any _)
  refine WL.nil ?_
  refine WX.nxt KC ?_
  refine WA.step 5 (hi := rfl) (k := ?_)
  refine WL.op (d := 9) (.bool true) (k := ?_)
  refine WL.nil ?_
  refine WX.nxtL ?_
  refine WA.done (k := ?_)
  clear KC
  refine WX.seqN ?_
  refine WC.seq ?_
  refine WC.mixed (fun _ => False) 9 (k := fun w63 k64 => ?_)
  replace hb4 := k64.heap hb4 id
  replace hb10 := k64.heap hb10 id
  replace hb25 := k64.heap hb25 id
  replace hb39 := k64.heap hb39 id
  replace ho50 := ho50.adds k64
  replace ho57 := ho57.adds k64
  replace K := K.trans (k64.any _)
  have KC := Keeps.refl (fun _ => False) w63
  have bh65 := hb4
  have bh66 := hb10
  have bh67 := hb25
  have bh68 := hb39
  have Kb := K
  refine WA.quietR 0 (d := 30) (.agg #[.slice A rows.length cp, .int .i64 md]) KC (exec_load (fun w_ k_ => ldN (T := 24) (i := 0) (m := 2) (l := [.slice A rows.length cp, .int .i64 md]) (k_.heap bh65 id))) (hi := rfl) (k := ?_)
  refine WA.quiet 1 (d := 31) (.pointer (some ⟨b7, 1, none⟩)) KC (hi := rfl) (k := ?_)
  refine WA.quietR 2 (d := 32) (.int .i64 q1) KC (exec_load (fun w_ k_ => ld1 (T := 3) (i := 1) (k_.heap bh66 id))) (hi := rfl) (k := ?_)
  refine WA.quietR 4 (d := 34) (.agg #[.slice A rows.length cp, .int .i64 md]) KC (exec_load (fun w_ k_ => ldN (T := 24) (i := 0) (m := 2) (l := [.slice A rows.length cp, .int .i64 md]) (k_.heap bh65 id))) (hi := rfl) (k := ?_)
  refine WA.quiet 5 (d := 35) (.pointer (some ⟨b7, 1, none⟩)) KC (hi := rfl) (k := ?_)
  refine WA.quietR 6 (d := 36) (.int .i64 q1) KC (exec_load (fun w_ k_ => ld1 (T := 3) (i := 1) (k_.heap bh66 id))) (hi := rfl) (k := ?_)
  refine WA.step 3 (hi := rfl) (k := ?_)
  refine WL.callG (d := 33) (f := 29) (args := #[.agg #[.slice A rows.length cp, .int .i64 md], .int .i64 q1]) (tIn_c (cp := cp) (tm := md) (md := q1) (hA.adds K) (by omega)) (k := fun e_ w69 h_ => ?_)
  obtain ⟨A70, c71, rfl, ho72, k73, ol74⟩ := h_
  refine ⟨_, rfl, ?_⟩
  have ol75 := fun i h => Nat.le_trans K.size (ol74 i h)
  replace hb4 := k73.heap hb4 id
  replace hb10 := k73.heap hb10 id
  replace hb25 := k73.heap hb25 id
  replace hb39 := k73.heap hb39 id
  replace ho50 := ho50.adds k73
  replace ho57 := ho57.adds k73
  replace K := K.trans (k73.any _)
  replace KC := KC.trans (k73.any _)
  clear ol74
  refine WL.nil ?_
  refine WX.nxt KC ?_
  refine WA.step 7 (hi := rfl) (k := ?_)
  refine WL.callG (d := 37) (f := 53) (args := #[.agg #[.slice A rows.length cp, .int .i64 md], .int .i64 q1]) (u14In_c (cp := cp) (tm := md) (md := q1) (hA.adds K) (by omega)) (k := fun e_ w76 h_ => ?_)
  obtain ⟨A77, c78, rfl, ho79, k80, ol81⟩ := h_
  refine ⟨_, rfl, ?_⟩
  have ol82 := fun i h => Nat.le_trans K.size (ol81 i h)
  replace hb4 := k80.heap hb4 id
  replace hb10 := k80.heap hb10 id
  replace hb25 := k80.heap hb25 id
  replace hb39 := k80.heap hb39 id
  replace ho50 := ho50.adds k80
  replace ho57 := ho57.adds k80
  replace ho72 := ho72.adds k80
  replace K := K.trans (k80.any _)
  replace KC := KC.trans (k80.any _)
  clear ol81
  refine WL.nil ?_
  refine WX.nxt KC ?_
  refine WA.step 8 (hi := rfl) (k := ?_)
  refine WL.callG (d := 38) (f := 50) (args := #[.slice A70 ((keepL q1 (List.map GRow.task rows)).length) c71, .slice A77 ((keepL q1 (List.map GRow.task rows)).length) c78]) (u09Same_r (cp := c71) (cq := c78) (ho72.sl ekTask) (ho79.sl ekTask) (Nat.le_trans (keepM_len _ _) (by omega))) (k := fun e_ w83 h_ => ⟨.bool true, h_.1, ?_⟩)
  have k84 := h_.2; clear h_
  replace hb4 := k84.heap hb4 id
  replace hb10 := k84.heap hb10 id
  replace hb25 := k84.heap hb25 id
  replace hb39 := k84.heap hb39 id
  replace ho50 := ho50.adds k84
  replace ho57 := ho57.adds k84
  replace ho72 := ho72.adds k84
  replace ho79 := ho79.adds k84
  replace K := K.trans (k84.any _)
  replace KC := KC.trans (k84.any _)
  refine WL.nil ?_
  refine WX.nxt KC ?_
  refine WA.step 9 (hi := rfl) (k := ?_)
  refine WL.op (d := 10) (.bool true) (k := ?_)
  refine WL.nil ?_
  refine WX.nxtL ?_
  refine WA.done (k := ?_)
  clear KC
  refine WX.seqN ?_
  refine WC.seq ?_
  refine WC.region ?_
  refine WL.load (v := GRow.val (findV rows q0)) (ldN (T := 53) (i := 0) (m := 6) (l := (Value.cells (GRow.val (findV rows q0))).toList) hb25) (k := ?_)
  refine WL.load (v := GRow.val (findV rows q0)) (ldN (T := 53) (i := 0) (m := 6) (l := (Value.cells (GRow.val (findV rows q0))).toList) hb39) (k := ?_)
  refine WL.bin (d := 41) (v := .bool true) (eqRowS (findV rows q0) _) (k := ?_)
  refine WL.op (d := 42) (.bool true) (k := ?_)
  refine WL.op (d := 43) (.bool ((findR rows q0).isSome)) (k := ?_)
  refine WL.op (d := 44) (.bool ((findR rows q0).isSome)) (k := ?_)
  refine WL.opE (d := 45) (.bool (((findR rows q0).isSome) == ((findR rows q0).isSome))) (v := .bool true) (congrArg Value.bool (beq_self_eq_true (α := Bool) ((findR rows q0).isSome))) (k := ?_)
  refine WL.op (d := 46) (.bool true) (k := ?_)
  refine WL.op (d := 47) (.bool true) (k := ?_)
  refine WL.op (d := 48) (.bool true) (k := ?_)
  refine WL.op (d := 49) (.bool true) (k := ?_)
  refine WL.op (d := 50) (.bool true) (k := ?_)
  refine WL.op (d := 51) (.bool true) (k := ?_)
  refine WL.op (d := 52) (.bool true) (k := ?_)
  refine WL.op (d := 53) (.bool true) (k := ?_)
  refine WL.load (v := .agg #[.slice A rows.length cp, .int .i64 md]) (ldN (T := 24) (i := 0) (m := 2) (l := [.slice A rows.length cp, .int .i64 md]) hb4) (k := ?_)
  refine WL.load (v := .agg #[.slice A rows.length cp, .int .i64 md]) (ldN (T := 24) (i := 0) (m := 2) (l := [.slice A rows.length cp, .int .i64 md]) hb4) (k := ?_)
  refine WL.callG (d := 56) (f := 21) (args := #[.agg #[.slice A rows.length cp, .int .i64 md], .agg #[.slice A rows.length cp, .int .i64 md]]) (tSame_r (cp := cp) (cq := cp) (ma := md) (hA.adds K) (hA.adds K) (by first | omega | (simp; omega))) (k := fun e_ w85 h_ => ⟨.bool true, h_.1, ?_⟩)
  have k86 := h_.2; clear h_
  replace hb4 := k86.heap hb4 id
  replace hb10 := k86.heap hb10 id
  replace hb25 := k86.heap hb25 id
  replace hb39 := k86.heap hb39 id
  replace ho50 := ho50.adds k86
  replace ho57 := ho57.adds k86
  replace ho72 := ho72.adds k86
  replace ho79 := ho79.adds k86
  replace K := K.trans (k86.any _)
  refine WL.op (d := 57) (.bool true) (k := ?_)
  refine WL.op (d := 4) (.bool true) (k := ?_)
  refine WL.nil ?_
  refine WX.seqN ?_
  refine WC.ret ?_
  refine WX.ret (rs := [.tmp 4]) [.bool true] (.bool true) ⟨(by kernel_rfl), trivial⟩ (k := ?_)
  exact ⟨rfl, K⟩

set_option maxRecDepth 100000 in
set_option maxHeartbeats 4000000 in
theorem l14writes_c {A : Option Addr} {cp : Nat} {rows : List GRow} {md : Int} {w : World} (hA : SlAt rowC 6 53 A rows w) (hn : rows.length ≤ 100000) : Calls Try.prog 19 #[.agg #[.slice A rows.length cp, .int .i64 md]] w fun e w' => e = .returned (.bool true) ∧ Adds w w' := by
  have K : Keeps (fun _ => False) w w := Keeps.refl _ w
  refine Calls.start Try.func19 rfl (by kernel_rfl) ?_
  refine WC.seq ?_
  refine WC.region ?_
  refine WL.new (d := 1) (T := 24) #[.slice A rows.length cp, .int .i64 md] (k := fun b1 w2 g3 hb4 k5 => ?_)
  have z6 := Nat.le_trans K.size g3
  replace K := K.trans (k5.any _)
  refine WL.op (d := 2) (.bool false) (k := ?_)
  refine WL.nil ?_
  refine WX.seqN ?_
  refine WC.seq ?_
  refine WC.region ?_
  refine WL.load (v := .agg #[.slice A rows.length cp, .int .i64 md]) (ldN (T := 24) (i := 0) (m := 2) (l := [.slice A rows.length cp, .int .i64 md]) hb4) (k := ?_)
  refine WL.callG (d := 9) (f := 34) (args := #[.agg #[.slice A rows.length cp, .int .i64 md]]) (tBytes_c (cp := cp) (md := md) (hA.adds K) (by first | omega | (simp; omega))) (k := fun e_ w7 h_ => ⟨.tuple #[.string ⟨(bytesT (⟨rows, md⟩ : GTable)).toArray⟩, .int .i64 (bytesE (⟨rows, md⟩ : GTable))], h_.1, ?_⟩)
  have k8 := h_.2; clear h_
  replace hb4 := k8.heap hb4 id
  replace K := K.trans (k8.any _)
  refine WL.op (d := 7) (.tuple #[.string ⟨(bytesT (⟨rows, md⟩ : GTable)).toArray⟩, .int .i64 (bytesE (⟨rows, md⟩ : GTable))]) (k := ?_)
  refine WL.op (d := 10) (.string ⟨(bytesT (⟨rows, md⟩ : GTable)).toArray⟩) (k := ?_)
  refine WL.op (d := 11) (.int .i64 (bytesE (⟨rows, md⟩ : GTable))) (k := ?_)
  refine WL.op (d := 3) (.string ⟨(bytesT (⟨rows, md⟩ : GTable)).toArray⟩) (k := ?_)
  refine WL.op (d := 4) (.int .i64 (bytesE (⟨rows, md⟩ : GTable))) (k := ?_)
  refine WL.nil ?_
  refine WX.seqN ?_
  refine WC.seq ?_
  refine WC.region ?_
  refine WL.load (v := .agg #[.slice A rows.length cp, .int .i64 md]) (ldN (T := 24) (i := 0) (m := 2) (l := [.slice A rows.length cp, .int .i64 md]) hb4) (k := ?_)
  refine WL.callG (d := 14) (f := 24) (args := #[.agg #[.slice A rows.length cp, .int .i64 md]]) (u14Bytes_c (cp := cp) (md := md) (hA.adds K) (by first | omega | (simp; omega))) (k := fun e_ w9 h_ => ⟨.tuple #[.string ⟨(bytesT (⟨rows, md⟩ : GTable)).toArray⟩, .int .i64 (bytesE (⟨rows, md⟩ : GTable))], h_.1, ?_⟩)
  have k10 := h_.2; clear h_
  replace hb4 := k10.heap hb4 id
  replace K := K.trans (k10.any _)
  refine WL.op (d := 12) (.tuple #[.string ⟨(bytesT (⟨rows, md⟩ : GTable)).toArray⟩, .int .i64 (bytesE (⟨rows, md⟩ : GTable))]) (k := ?_)
  refine WL.op (d := 15) (.string ⟨(bytesT (⟨rows, md⟩ : GTable)).toArray⟩) (k := ?_)
  refine WL.op (d := 16) (.int .i64 (bytesE (⟨rows, md⟩ : GTable))) (k := ?_)
  refine WL.op (d := 5) (.string ⟨(bytesT (⟨rows, md⟩ : GTable)).toArray⟩) (k := ?_)
  refine WL.op (d := 6) (.int .i64 (bytesE (⟨rows, md⟩ : GTable))) (k := ?_)
  refine WL.nil ?_
  refine WX.seqN ?_
  refine WC.seq ?_
  refine WC.quiet (k := ?_)
  refine WQ.op (d := 17) (.string ⟨(bytesT (⟨rows, md⟩ : GTable)).toArray⟩) (k := ?_)
  refine WQ.op (d := 18) (.string ⟨(bytesT (⟨rows, md⟩ : GTable)).toArray⟩) (k := ?_)
  refine WQ.opE (d := 19) (.bool (ByteArray.toList ⟨(bytesT (⟨rows, md⟩ : GTable)).toArray⟩ == ByteArray.toList ⟨(bytesT (⟨rows, md⟩ : GTable)).toArray⟩)) (v := .bool true) (str_eqs _) (k := ?_)
  refine WQ.op (d := 20) (.bool true) (k := ?_)
  refine WQ.op (d := 21) (.int .i64 (bytesE (⟨rows, md⟩ : GTable))) (k := ?_)
  refine WQ.op (d := 22) (.int .i64 (bytesE (⟨rows, md⟩ : GTable))) (k := ?_)
  refine WQ.opE (d := 23) (.bool ((bytesE (⟨rows, md⟩ : GTable)) == (bytesE (⟨rows, md⟩ : GTable)))) (v := .bool true) (congrArg Value.bool (beq_self_eq_true _)) (k := ?_)
  refine WQ.op (d := 24) (.bool true) (k := ?_)
  refine WQ.op (d := 25) (.bool true) (k := ?_)
  refine WQ.load (v := .agg #[.slice A rows.length cp, .int .i64 md]) (fun w_ k_ => ldN (T := 24) (i := 0) (m := 2) (l := [.slice A rows.length cp, .int .i64 md]) (k_.heap hb4 id)) (k := ?_)
  refine WQ.callG (d := 27) (f := 36) (args := #[.agg #[.slice A rows.length cp, .int .i64 md]]) (v := .bool (tokB (⟨rows, md⟩ : GTable))) (fun w_ k_ => tCheck_c (cp := cp) ((hA.adds K).adds k_) (by first | omega | simp | (simp; omega))) addsR (k := ?_)
  refine WQ.load (v := .agg #[.slice A rows.length cp, .int .i64 md]) (fun w_ k_ => ldN (T := 24) (i := 0) (m := 2) (l := [.slice A rows.length cp, .int .i64 md]) (k_.heap hb4 id)) (k := ?_)
  refine WQ.callG (d := 29) (f := 55) (args := #[.agg #[.slice A rows.length cp, .int .i64 md]]) (v := .bool (tokB (⟨rows, md⟩ : GTable))) (fun w_ k_ => u14Check_c (cp := cp) ((hA.adds K).adds k_) (by first | omega | simp | (simp; omega))) addsR (k := ?_)
  refine WQ.opE (d := 30) (.bool ((tokB (⟨rows, md⟩ : GTable)) == (tokB (⟨rows, md⟩ : GTable)))) (v := .bool true) (congrArg Value.bool (beq_self_eq_true (α := Bool) (tokB (⟨rows, md⟩ : GTable)))) (k := ?_)
  refine WQ.op (d := 31) (.bool true) (k := ?_)
  refine WQ.op (d := 2) (.bool true) (k := ?_)
  refine WQ.nilX (fun w11 k12 => ?_)
  replace hb4 := k12.heap hb4 id
  replace K := K.trans (k12.any _)
  refine WX.seqN ?_
  refine WC.ret ?_
  refine WX.ret (rs := [.tmp 2]) [.bool true] (.bool true) ⟨(by kernel_rfl), trivial⟩ (k := ?_)
  exact ⟨rfl, K⟩

set_option maxRecDepth 100000 in
set_option maxHeartbeats 4000000 in
theorem tableTells_any {A : Option Addr} {cp : Nat} {rows : List GRow} {md : Int} {w : World} (hA : SlAt rowC 6 53 A rows w) (hc : rows.length ≤ cp) {L : Option Addr} {lc : Nat} {l : List GOp} (hL : SlAt opC 10 46 L l w) (hl : l.length ≤ 9223372036854775807) (q0 q1 : Int) : Calls Try.prog 3 #[.agg #[.slice A rows.length cp, .int .i64 md], .slice L l.length lc, .agg #[.int .i64 q0, .int .i64 q1]] w fun e w' => e = .returned (.bool true) ∧ Adds w w' := by
  have K : Keeps (fun _ => False) w w := Keeps.refl _ w
  refine Calls.start Try.func3 rfl (by kernel_rfl) ?_
  refine WC.seq ?_
  refine WC.region ?_
  refine WL.new (d := 3) (T := 24) #[.slice A rows.length cp, .int .i64 md] (k := fun b1 w2 g3 hb4 k5 => ?_)
  have z6 := Nat.le_trans K.size g3
  replace K := K.trans (k5.any _)
  refine WL.new (d := 5) (T := 26) #[.int .i64 q0, .int .i64 q1] (k := fun b7 w8 g9 hb10 k11 => ?_)
  have z12 := Nat.le_trans K.size g9
  have n13 : b1 ≠ b7 := Nat.ne_of_lt (Nat.lt_of_lt_of_le (lt_of_heap hb4) g9)
  replace hb4 := k11.heap hb4 id
  replace K := K.trans (k11.any _)
  refine WL.op (d := 6) (.bool false) (k := ?_)
  refine WL.nil ?_
  refine WX.seqN ?_
  refine WC.seq ?_
  refine WC.region ?_
  refine WL.callG (d := 8) (f := 16) (args := #[]) (l14awake_c w8) (k := fun e_ w14 h_ => ⟨.bool true, h_.1, ?_⟩)
  have k15 := h_.2; clear h_
  replace hb4 := k15.heap hb4 id
  replace hb10 := k15.heap hb10 id
  replace K := K.trans (k15.any _)
  refine WL.op (d := 7) (.bool true) (k := ?_)
  refine WL.nil ?_
  refine WX.seqN ?_
  refine WC.seq ?_
  refine WC.mixed (fun _ => False) 42 (k := fun w16 k17 => ?_)
  replace hb4 := k17.heap hb4 id
  replace hb10 := k17.heap hb10 id
  replace K := K.trans (k17.any _)
  have KC := Keeps.refl (fun _ => False) w16
  have bh18 := hb4
  have bh19 := hb10
  have Kb := K
  refine WA.quiet 0 (d := 9) (.bool true) KC (hi := rfl) (k := ?_)
  refine WA.quiet 1 (d := 10) (.bool true) KC (hi := rfl) (k := ?_)
  refine WA.quiet 2 (d := 11) (.slice L l.length lc) KC (hi := rfl) (k := ?_)
  refine WA.quietR 4 (d := 13) (.agg #[.int .i64 q0, .int .i64 q1]) KC (exec_load (fun w_ k_ => ldN (T := 26) (i := 0) (m := 2) (l := [.int .i64 q0, .int .i64 q1]) (k_.heap bh19 id))) (hi := rfl) (k := ?_)
  refine WA.step 3 (hi := rfl) (k := ?_)
  refine WL.callG (d := 12) (f := 18) (args := #[.slice L l.length lc]) (l14made_c (lc := lc) (hL.adds K) (by omega)) (k := fun e_ w20 h_ => ?_)
  obtain ⟨A21, c22, rfl, ho23, k24, ol25⟩ := h_
  refine ⟨_, rfl, ?_⟩
  have ol26 := fun i h => Nat.le_trans K.size (ol25 i h)
  replace hb4 := k24.heap hb4 id
  replace hb10 := k24.heap hb10 id
  replace K := K.trans (k24.any _)
  replace KC := KC.trans (k24.any _)
  clear ol25
  have ml27 := madeT_len l
  refine WL.nil ?_
  refine WX.nxt KC ?_
  refine WA.step 5 (hi := rfl) (k := ?_)
  refine WL.callG (d := 14) (f := 17) (args := #[.agg #[.slice A21 (((madeT l).rows).length) c22, .int .i64 ((madeT l).mode)], .agg #[.int .i64 q0, .int .i64 q1]]) (l14tells14_c (cp := c22) (md := (madeT l).mode) (ho23.sl ekRow) (by omega) q0 q1) (k := fun e_ w28 h_ => ⟨.bool true, h_.1, ?_⟩)
  have k29 := h_.2; clear h_
  replace hb4 := k29.heap hb4 id
  replace hb10 := k29.heap hb10 id
  replace ho23 := ho23.adds k29
  replace K := K.trans (k29.any _)
  replace KC := KC.trans (k29.any _)
  refine WL.nil ?_
  refine WX.nxt KC ?_
  refine WA.quiet 6 (d := 15) (.bool true) KC (hi := rfl) (k := ?_)
  refine WA.quiet 7 (d := 16) (.bool true) KC (hi := rfl) (k := ?_)
  refine WA.quiet 8 (d := 17) (.slice L l.length lc) KC (hi := rfl) (k := ?_)
  refine WA.quiet 10 (d := 19) (.pointer (some ⟨b7, 0, none⟩)) KC (hi := rfl) (k := ?_)
  refine WA.quietR 11 (d := 20) (.int .i64 q0) KC (exec_load (fun w_ k_ => ld1 (T := 3) (i := 0) (k_.heap bh19 id))) (hi := rfl) (k := ?_)
  refine WA.quietR 12 (d := 21) (.int .i64 (bits BinOp.and IntKind.i64 q0 15)) KC (exec_bin (fun _ => bits_run (by decide))) (hi := rfl) (k := ?_)
  refine WA.quiet 13 (d := 22) (.pointer (some ⟨b7, 1, none⟩)) KC (hi := rfl) (k := ?_)
  refine WA.quietR 14 (d := 23) (.int .i64 q1) KC (exec_load (fun w_ k_ => ld1 (T := 3) (i := 1) (k_.heap bh19 id))) (hi := rfl) (k := ?_)
  refine WA.quietR 15 (d := 24) (.int .i64 (bits BinOp.and IntKind.i64 q1 3)) KC (exec_bin (fun _ => bits_run (by decide))) (hi := rfl) (k := ?_)
  refine WA.quiet 16 (d := 25) (.agg #[.int .i64 (bits BinOp.and IntKind.i64 q0 15), .int .i64 (bits BinOp.and IntKind.i64 q1 3)]) KC (hi := rfl) (k := ?_)
  refine WA.step 9 (hi := rfl) (k := ?_)
  refine WL.callG (d := 18) (f := 18) (args := #[.slice L l.length lc]) (l14made_c (lc := lc) (hL.adds K) (by omega)) (k := fun e_ w30 h_ => ?_)
  obtain ⟨A31, c32, rfl, ho33, k34, ol35⟩ := h_
  refine ⟨_, rfl, ?_⟩
  have ol36 := fun i h => Nat.le_trans K.size (ol35 i h)
  replace hb4 := k34.heap hb4 id
  replace hb10 := k34.heap hb10 id
  replace ho23 := ho23.adds k34
  replace K := K.trans (k34.any _)
  replace KC := KC.trans (k34.any _)
  clear ol35
  have ml37 := madeT_len l
  refine WL.nil ?_
  refine WX.nxt KC ?_
  refine WA.step 17 (hi := rfl) (k := ?_)
  refine WL.callG (d := 26) (f := 17) (args := #[.agg #[.slice A31 (((madeT l).rows).length) c32, .int .i64 ((madeT l).mode)], .agg #[.int .i64 (bits BinOp.and IntKind.i64 q0 15), .int .i64 (bits BinOp.and IntKind.i64 q1 3)]]) (l14tells14_c (cp := c32) (md := (madeT l).mode) (ho33.sl ekRow) (by omega) (bits BinOp.and IntKind.i64 q0 15) (bits BinOp.and IntKind.i64 q1 3)) (k := fun e_ w38 h_ => ⟨.bool true, h_.1, ?_⟩)
  have k39 := h_.2; clear h_
  replace hb4 := k39.heap hb4 id
  replace hb10 := k39.heap hb10 id
  replace ho23 := ho23.adds k39
  replace ho33 := ho33.adds k39
  replace K := K.trans (k39.any _)
  replace KC := KC.trans (k39.any _)
  refine WL.nil ?_
  refine WX.nxt KC ?_
  refine WA.quiet 18 (d := 27) (.bool true) KC (hi := rfl) (k := ?_)
  refine WA.quiet 19 (d := 28) (.bool true) KC (hi := rfl) (k := ?_)
  refine WA.quietR 20 (d := 29) (.agg #[.slice A rows.length cp, .int .i64 md]) KC (exec_load (fun w_ k_ => ldN (T := 24) (i := 0) (m := 2) (l := [.slice A rows.length cp, .int .i64 md]) (k_.heap bh18 id))) (hi := rfl) (k := ?_)
  refine WA.step 21 (hi := rfl) (k := ?_)
  have hs40 := SlAt.take hA 18
  refine WL.callG (d := 30) (f := 20) (args := #[.agg #[.slice A rows.length cp, .int .i64 md]]) (l14few_c (md := md) (hA.adds K) (by omega)) (k := fun e_ w43 h_ => ⟨.agg #[.slice A ((List.take 18 rows).length) cp, .int .i64 md], h_.1, ?_⟩)
  have k44 := h_.2; clear h_
  replace hb4 := k44.heap hb4 id
  replace hb10 := k44.heap hb10 id
  replace ho23 := ho23.adds k44
  replace ho33 := ho33.adds k44
  replace K := K.trans (k44.any _)
  replace KC := KC.trans (k44.any _)
  have fl41 : (List.take 18 rows).length ≤ 18 := by simp; omega
  have fl42 : (List.take 18 rows).length ≤ cp := by simp; omega
  refine WL.nil ?_
  refine WX.nxt KC ?_
  refine WA.step 22 (hi := rfl) (k := ?_)
  refine WL.callG (d := 31) (f := 19) (args := #[.agg #[.slice A ((List.take 18 rows).length) cp, .int .i64 md]]) (l14writes_c (cp := cp) (md := md) (hs40.adds K) (by omega)) (k := fun e_ w45 h_ => ⟨.bool true, h_.1, ?_⟩)
  have k46 := h_.2; clear h_
  replace hb4 := k46.heap hb4 id
  replace hb10 := k46.heap hb10 id
  replace ho23 := ho23.adds k46
  replace ho33 := ho33.adds k46
  replace K := K.trans (k46.any _)
  replace KC := KC.trans (k46.any _)
  refine WL.nil ?_
  refine WX.nxt KC ?_
  refine WA.quiet 23 (d := 32) (.bool true) KC (hi := rfl) (k := ?_)
  refine WA.quiet 24 (d := 33) (.bool true) KC (hi := rfl) (k := ?_)
  refine WA.quiet 25 (d := 34) (.slice L l.length lc) KC (hi := rfl) (k := ?_)
  refine WA.step 26 (hi := rfl) (k := ?_)
  refine WL.callG (d := 35) (f := 18) (args := #[.slice L l.length lc]) (l14made_c (lc := lc) (hL.adds K) (by omega)) (k := fun e_ w47 h_ => ?_)
  obtain ⟨A48, c49, rfl, ho50, k51, ol52⟩ := h_
  refine ⟨_, rfl, ?_⟩
  have ol53 := fun i h => Nat.le_trans K.size (ol52 i h)
  replace hb4 := k51.heap hb4 id
  replace hb10 := k51.heap hb10 id
  replace ho23 := ho23.adds k51
  replace ho33 := ho33.adds k51
  replace K := K.trans (k51.any _)
  replace KC := KC.trans (k51.any _)
  clear ol52
  have ml54 := madeT_len l
  refine WL.nil ?_
  refine WX.nxt KC ?_
  refine WA.step 27 (hi := rfl) (k := ?_)
  refine WL.callG (d := 36) (f := 19) (args := #[.agg #[.slice A48 (((madeT l).rows).length) c49, .int .i64 ((madeT l).mode)]]) (l14writes_c (cp := c49) (md := (madeT l).mode) (ho50.sl ekRow) (by omega)) (k := fun e_ w55 h_ => ⟨.bool true, h_.1, ?_⟩)
  have k56 := h_.2; clear h_
  replace hb4 := k56.heap hb4 id
  replace hb10 := k56.heap hb10 id
  replace ho23 := ho23.adds k56
  replace ho33 := ho33.adds k56
  replace ho50 := ho50.adds k56
  replace K := K.trans (k56.any _)
  replace KC := KC.trans (k56.any _)
  refine WL.nil ?_
  refine WX.nxt KC ?_
  refine WA.quiet 28 (d := 37) (.bool true) KC (hi := rfl) (k := ?_)
  refine WA.quiet 29 (d := 38) (.bool true) KC (hi := rfl) (k := ?_)
  refine WA.quietR 30 (d := 39) (.agg #[.slice A rows.length cp, .int .i64 md]) KC (exec_load (fun w_ k_ => ldN (T := 24) (i := 0) (m := 2) (l := [.slice A rows.length cp, .int .i64 md]) (k_.heap bh18 id))) (hi := rfl) (k := ?_)
  refine WA.quiet 32 (d := 41) (.slice L l.length lc) KC (hi := rfl) (k := ?_)
  refine WA.quietR 35 (d := 44) (.agg #[.slice A rows.length cp, .int .i64 md]) KC (exec_load (fun w_ k_ => ldN (T := 24) (i := 0) (m := 2) (l := [.slice A rows.length cp, .int .i64 md]) (k_.heap bh18 id))) (hi := rfl) (k := ?_)
  refine WA.quiet 37 (d := 46) (.slice L l.length lc) KC (hi := rfl) (k := ?_)
  refine WA.step 31 (hi := rfl) (k := ?_)
  have hs57 := SlAt.take hA 18
  refine WL.callG (d := 40) (f := 20) (args := #[.agg #[.slice A rows.length cp, .int .i64 md]]) (l14few_c (md := md) (hA.adds K) (by omega)) (k := fun e_ w60 h_ => ⟨.agg #[.slice A ((List.take 18 rows).length) cp, .int .i64 md], h_.1, ?_⟩)
  have k61 := h_.2; clear h_
  replace hb4 := k61.heap hb4 id
  replace hb10 := k61.heap hb10 id
  replace ho23 := ho23.adds k61
  replace ho33 := ho33.adds k61
  replace ho50 := ho50.adds k61
  replace K := K.trans (k61.any _)
  replace KC := KC.trans (k61.any _)
  have fl58 : (List.take 18 rows).length ≤ 18 := by simp; omega
  have fl59 : (List.take 18 rows).length ≤ cp := by simp; omega
  refine WL.nil ?_
  refine WX.nxt KC ?_
  refine WA.step 33 (hi := rfl) (k := ?_)
  refine WL.callG (d := 42) (f := 18) (args := #[.slice L l.length lc]) (l14made_c (lc := lc) (hL.adds K) (by omega)) (k := fun e_ w62 h_ => ?_)
  obtain ⟨A63, c64, rfl, ho65, k66, ol67⟩ := h_
  refine ⟨_, rfl, ?_⟩
  have ol68 := fun i h => Nat.le_trans K.size (ol67 i h)
  replace hb4 := k66.heap hb4 id
  replace hb10 := k66.heap hb10 id
  replace ho23 := ho23.adds k66
  replace ho33 := ho33.adds k66
  replace ho50 := ho50.adds k66
  replace K := K.trans (k66.any _)
  replace KC := KC.trans (k66.any _)
  clear ol67
  have ml69 := madeT_len l
  refine WL.nil ?_
  refine WX.nxt KC ?_
  refine WA.step 34 (hi := rfl) (k := ?_)
  refine WL.callG (d := 43) (f := 21) (args := #[.agg #[.slice A ((List.take 18 rows).length) cp, .int .i64 md], .agg #[.slice A63 (((madeT l).rows).length) c64, .int .i64 ((madeT l).mode)]]) (tSame_c (cp := cp) (cq := c64) (ma := md) (mb := (madeT l).mode) (hs57.adds K) (ho65.sl ekRow) (by first | omega | (simp; omega)) (by first | omega | (simp; omega))) (k := fun e_ w70 h_ => ⟨.bool (decide ((⟨List.take 18 rows, md⟩ : GTable) = ⟨(madeT l).rows, ((madeT l).mode)⟩)), h_.1, ?_⟩)
  have k71 := h_.2; clear h_
  replace hb4 := k71.heap hb4 id
  replace hb10 := k71.heap hb10 id
  replace ho23 := ho23.adds k71
  replace ho33 := ho33.adds k71
  replace ho50 := ho50.adds k71
  replace ho65 := ho65.adds k71
  replace K := K.trans (k71.any _)
  replace KC := KC.trans (k71.any _)
  refine WL.nil ?_
  refine WX.nxt KC ?_
  refine WA.step 36 (hi := rfl) (k := ?_)
  have hs72 := SlAt.take hA 18
  refine WL.callG (d := 45) (f := 20) (args := #[.agg #[.slice A rows.length cp, .int .i64 md]]) (l14few_c (md := md) (hA.adds K) (by omega)) (k := fun e_ w75 h_ => ⟨.agg #[.slice A ((List.take 18 rows).length) cp, .int .i64 md], h_.1, ?_⟩)
  have k76 := h_.2; clear h_
  replace hb4 := k76.heap hb4 id
  replace hb10 := k76.heap hb10 id
  replace ho23 := ho23.adds k76
  replace ho33 := ho33.adds k76
  replace ho50 := ho50.adds k76
  replace ho65 := ho65.adds k76
  replace K := K.trans (k76.any _)
  replace KC := KC.trans (k76.any _)
  have fl73 : (List.take 18 rows).length ≤ 18 := by simp; omega
  have fl74 : (List.take 18 rows).length ≤ cp := by simp; omega
  refine WL.nil ?_
  refine WX.nxt KC ?_
  refine WA.step 38 (hi := rfl) (k := ?_)
  refine WL.callG (d := 47) (f := 18) (args := #[.slice L l.length lc]) (l14made_c (lc := lc) (hL.adds K) (by omega)) (k := fun e_ w77 h_ => ?_)
  obtain ⟨A78, c79, rfl, ho80, k81, ol82⟩ := h_
  refine ⟨_, rfl, ?_⟩
  have ol83 := fun i h => Nat.le_trans K.size (ol82 i h)
  replace hb4 := k81.heap hb4 id
  replace hb10 := k81.heap hb10 id
  replace ho23 := ho23.adds k81
  replace ho33 := ho33.adds k81
  replace ho50 := ho50.adds k81
  replace ho65 := ho65.adds k81
  replace K := K.trans (k81.any _)
  replace KC := KC.trans (k81.any _)
  clear ol82
  have ml84 := madeT_len l
  refine WL.nil ?_
  refine WX.nxt KC ?_
  refine WA.step 39 (hi := rfl) (k := ?_)
  refine WL.callG (d := 48) (f := 22) (args := #[.agg #[.slice A ((List.take 18 rows).length) cp, .int .i64 md], .agg #[.slice A78 (((madeT l).rows).length) c79, .int .i64 ((madeT l).mode)]]) (u14Same_c (cp := cp) (cq := c79) (ma := md) (mb := (madeT l).mode) (hs72.adds K) (ho80.sl ekRow) (by first | omega | (simp; omega)) (by first | omega | (simp; omega))) (k := fun e_ w85 h_ => ⟨.bool (decide ((⟨List.take 18 rows, md⟩ : GTable) = ⟨(madeT l).rows, ((madeT l).mode)⟩)), h_.1, ?_⟩)
  have k86 := h_.2; clear h_
  replace hb4 := k86.heap hb4 id
  replace hb10 := k86.heap hb10 id
  replace ho23 := ho23.adds k86
  replace ho33 := ho33.adds k86
  replace ho50 := ho50.adds k86
  replace ho65 := ho65.adds k86
  replace ho80 := ho80.adds k86
  replace K := K.trans (k86.any _)
  replace KC := KC.trans (k86.any _)
  refine WL.nil ?_
  refine WX.nxt KC ?_
  refine WA.quiet 40 (d := 49) (.bool ((decide ((⟨List.take 18 rows, md⟩ : GTable) = ⟨(madeT l).rows, ((madeT l).mode)⟩)) == (decide ((⟨List.take 18 rows, md⟩ : GTable) = ⟨(madeT l).rows, ((madeT l).mode)⟩)))) KC (hi := rfl) (k := ?_)
  refine WA.rw (t := 49) (v := .bool true) (congrArg Value.bool (beq_self_eq_true (α := Bool) (decide ((⟨List.take 18 rows, md⟩ : GTable) = ⟨(madeT l).rows, ((madeT l).mode)⟩)))) (k := ?_)
  refine WA.quiet 41 (d := 50) (.bool true) KC (hi := rfl) (k := ?_)
  refine WA.step 42 (hi := rfl) (k := ?_)
  refine WL.op (d := 6) (.bool true) (k := ?_)
  refine WL.nil ?_
  refine WX.nxtL ?_
  refine WA.done (k := ?_)
  clear KC
  refine WX.seqN ?_
  refine WC.ret ?_
  refine WX.ret (rs := [.tmp 6]) [.bool true] (.bool true) ⟨(by kernel_rfl), trivial⟩ (k := ?_)
  exact ⟨rfl, K⟩

end Go.Proofs.Ytpkcohhfkeinmaa
