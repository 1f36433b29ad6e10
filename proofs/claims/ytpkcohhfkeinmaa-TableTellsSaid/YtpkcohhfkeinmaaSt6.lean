/- TableApplies. -/
import Derived.Test.YtpkcohhfkeinmaaSt5
namespace Go.Proofs.Ytpkcohhfkeinmaa
open Go.RowKit
set_option linter.unusedVariables false
set_option linter.unusedSimpArgs false

theorem u14Same_r {A B : Option Addr} {cp cq : Nat} {xs : List GRow} {ma : Int} {w : World} (hA : SlAt rowC 6 53 A xs w) (hB : SlAt rowC 6 53 B xs w) (hn : xs.length ≤ 1000000000) : Calls Try.prog 22 #[.agg #[.slice A xs.length cp, .int .i64 ma], .agg #[.slice B xs.length cq, .int .i64 ma]] w fun e w' => e = .returned (.bool true) ∧ Adds w w' := by
  have h := u14Same_c (cp := cp) (cq := cq) (ma := ma) (mb := ma) hA hB hn hn
  simpa using h

set_option maxRecDepth 100000 in
theorem l14applies_c {A : Option Addr} {cp : Nat} {rows : List GRow} {w : World} (hA : SlAt rowC 6 53 A rows w) (hc : rows.length ≤ cp) (hn : rows.length ≤ 100000) (md : Int) (o : GOp) : Calls Try.prog 27 #[.agg #[.slice A rows.length cp, .int .i64 md], o.val] w fun e w' => e = .returned (.bool true) ∧ Adds w w' := by
  have K : Keeps (fun _ => False) w w := Keeps.refl _ w
  refine Calls.start Try.func27 rfl (by kernel_rfl) ?_
  refine WC.seq ?_
  refine WC.region ?_
  refine WL.new (d := 2) (T := 24) #[.slice A rows.length cp, .int .i64 md] (k := fun b1 w2 g3 hb4 k5 => ?_)
  have z6 := Nat.le_trans K.size g3
  replace K := K.trans (k5.any _)
  refine WL.new (d := 3) (T := 46) (Value.cells (GOp.val o)) (k := fun b7 w8 g9 hb10 k11 => ?_)
  have z12 := Nat.le_trans K.size g9
  have n13 : b1 ≠ b7 := Nat.ne_of_lt (Nat.lt_of_lt_of_le (lt_of_heap hb4) g9)
  replace hb4 := k11.heap hb4 id
  replace K := K.trans (k11.any _)
  refine WL.op (d := 4) (.bool false) (k := ?_)
  refine WL.nil ?_
  refine WX.seqN ?_
  refine WC.seq ?_
  refine WC.region ?_
  refine WL.load (v := .agg #[.slice A rows.length cp, .int .i64 md]) (ldN (T := 24) (i := 0) (m := 2) (l := [.slice A rows.length cp, .int .i64 md]) hb4) (k := ?_)
  refine WL.load (v := GOp.val o) (ldN (T := 46) (i := 0) (m := 10) (l := (Value.cells (GOp.val o)).toList) hb10) (k := ?_)
  refine WL.callG (d := 13) (f := 30) (args := #[.agg #[.slice A rows.length cp, .int .i64 md], GOp.val o]) (tApply_c (cp := cp) (hA.adds K) (by omega) (by omega) md o) (k := fun e_ w14 h_ => ?_)
  obtain ⟨A15, c16, rfl, ho17, k18, ol19⟩ := h_
  refine ⟨_, rfl, ?_⟩
  have ol20 := fun i h => Nat.le_trans K.size (ol19 i h)
  replace hb4 := k18.heap hb4 id
  replace hb10 := k18.heap hb10 id
  replace K := K.trans (k18.any _)
  clear ol19
  have al21 := applyT_len (⟨rows, md⟩ : GTable) o
  refine WL.op (d := 10) (.tuple #[.agg #[.slice A15 (((applyT (⟨rows, md⟩ : GTable) o).1.rows).length) c16, .int .i64 ((applyT (⟨rows, md⟩ : GTable) o).1.mode)], .int .i64 ((applyT (⟨rows, md⟩ : GTable) o).2)]) (k := ?_)
  refine WL.op (d := 14) (.agg #[.slice A15 (((applyT (⟨rows, md⟩ : GTable) o).1.rows).length) c16, .int .i64 ((applyT (⟨rows, md⟩ : GTable) o).1.mode)]) (k := ?_)
  refine WL.op (d := 15) (.int .i64 ((applyT (⟨rows, md⟩ : GTable) o).2)) (k := ?_)
  refine WL.new (d := 5) (T := 24) #[.slice none 0 0, .int .i64 0] (k := fun b22 w23 g24 hb25 k26 => ?_)
  have z27 := Nat.le_trans K.size g24
  have n28 : b1 ≠ b22 := Nat.ne_of_lt (Nat.lt_of_lt_of_le (lt_of_heap hb4) g24)
  have n29 : b7 ≠ b22 := Nat.ne_of_lt (Nat.lt_of_lt_of_le (lt_of_heap hb10) g24)
  replace hb4 := k26.heap hb4 id
  replace hb10 := k26.heap hb10 id
  replace ho17 := ho17.adds k26
  replace K := K.trans (k26.any _)
  refine WL.store (v := .agg #[.slice A15 (((applyT (⟨rows, md⟩ : GTable) o).1.rows).length) c16, .int .i64 ((applyT (⟨rows, md⟩ : GTable) o).1.mode)]) (i := 0) (cs' := #[.slice A15 (((applyT (⟨rows, md⟩ : GTable) o).1.rows).length) c16, .int .i64 ((applyT (⟨rows, md⟩ : GTable) o).1.mode)]) hb25 (k := fun w30 hb31 k32 => ?_)
  replace hb4 := k32.heap hb4 n28
  replace hb10 := k32.heap hb10 n29
  replace ho17 := ho17.keeps k32 (fun i hi e => (ho17.offT hb25 (by decide)) (e ▸ hi))
  replace K := K.trans' k32 (fun i hi e => absurd (e ▸ hi) (Nat.not_lt.2 z27))
  clear hb25
  refine WL.op (d := 6) (.int .i64 ((applyT (⟨rows, md⟩ : GTable) o).2)) (k := ?_)
  refine WL.nil ?_
  refine WX.seqN ?_
  refine WC.seq ?_
  refine WC.region ?_
  refine WL.load (v := .agg #[.slice A rows.length cp, .int .i64 md]) (ldN (T := 24) (i := 0) (m := 2) (l := [.slice A rows.length cp, .int .i64 md]) hb4) (k := ?_)
  refine WL.load (v := GOp.val o) (ldN (T := 46) (i := 0) (m := 10) (l := (Value.cells (GOp.val o)).toList) hb10) (k := ?_)
  refine WL.callG (d := 19) (f := 54) (args := #[.agg #[.slice A rows.length cp, .int .i64 md], GOp.val o]) (u14Apply_c (cp := cp) (hA.adds K) (by omega) (by omega) md o) (k := fun e_ w33 h_ => ?_)
  obtain ⟨A34, c35, rfl, ho36, k37, ol38⟩ := h_
  refine ⟨_, rfl, ?_⟩
  have ol39 := fun i h => Nat.le_trans K.size (ol38 i h)
  replace hb4 := k37.heap hb4 id
  replace hb10 := k37.heap hb10 id
  replace ho17 := ho17.adds k37
  replace hb31 := k37.heap hb31 id
  replace K := K.trans (k37.any _)
  clear ol38
  have al40 := applyT_len (⟨rows, md⟩ : GTable) o
  refine WL.op (d := 16) (.tuple #[.agg #[.slice A34 (((applyT (⟨rows, md⟩ : GTable) o).1.rows).length) c35, .int .i64 ((applyT (⟨rows, md⟩ : GTable) o).1.mode)], .int .i64 ((applyT (⟨rows, md⟩ : GTable) o).2)]) (k := ?_)
  refine WL.op (d := 20) (.agg #[.slice A34 (((applyT (⟨rows, md⟩ : GTable) o).1.rows).length) c35, .int .i64 ((applyT (⟨rows, md⟩ : GTable) o).1.mode)]) (k := ?_)
  refine WL.op (d := 21) (.int .i64 ((applyT (⟨rows, md⟩ : GTable) o).2)) (k := ?_)
  refine WL.new (d := 7) (T := 24) #[.slice none 0 0, .int .i64 0] (k := fun b41 w42 g43 hb44 k45 => ?_)
  have z46 := Nat.le_trans K.size g43
  have n47 : b1 ≠ b41 := Nat.ne_of_lt (Nat.lt_of_lt_of_le (lt_of_heap hb4) g43)
  have n48 : b7 ≠ b41 := Nat.ne_of_lt (Nat.lt_of_lt_of_le (lt_of_heap hb10) g43)
  have n49 : b22 ≠ b41 := Nat.ne_of_lt (Nat.lt_of_lt_of_le (lt_of_heap hb31) g43)
  replace hb4 := k45.heap hb4 id
  replace hb10 := k45.heap hb10 id
  replace ho17 := ho17.adds k45
  replace hb31 := k45.heap hb31 id
  replace ho36 := ho36.adds k45
  replace K := K.trans (k45.any _)
  refine WL.store (v := .agg #[.slice A34 (((applyT (⟨rows, md⟩ : GTable) o).1.rows).length) c35, .int .i64 ((applyT (⟨rows, md⟩ : GTable) o).1.mode)]) (i := 0) (cs' := #[.slice A34 (((applyT (⟨rows, md⟩ : GTable) o).1.rows).length) c35, .int .i64 ((applyT (⟨rows, md⟩ : GTable) o).1.mode)]) hb44 (k := fun w50 hb51 k52 => ?_)
  replace hb4 := k52.heap hb4 n47
  replace hb10 := k52.heap hb10 n48
  replace ho17 := ho17.keeps k52 (fun i hi e => (ho17.offT hb44 (by decide)) (e ▸ hi))
  replace hb31 := k52.heap hb31 n49
  replace ho36 := ho36.keeps k52 (fun i hi e => (ho36.offT hb44 (by decide)) (e ▸ hi))
  replace K := K.trans' k52 (fun i hi e => absurd (e ▸ hi) (Nat.not_lt.2 z46))
  clear hb44
  refine WL.op (d := 8) (.int .i64 ((applyT (⟨rows, md⟩ : GTable) o).2)) (k := ?_)
  refine WL.nil ?_
  refine WX.seqN ?_
  refine WC.seq ?_
  refine WC.region ?_
  refine WL.load (v := .agg #[.slice A15 (((applyT (⟨rows, md⟩ : GTable) o).1.rows).length) c16, .int .i64 ((applyT (⟨rows, md⟩ : GTable) o).1.mode)]) (ldN (T := 24) (i := 0) (m := 2) (l := [.slice A15 (((applyT (⟨rows, md⟩ : GTable) o).1.rows).length) c16, .int .i64 ((applyT (⟨rows, md⟩ : GTable) o).1.mode)]) hb31) (k := ?_)
  refine WL.load (v := .agg #[.slice A34 (((applyT (⟨rows, md⟩ : GTable) o).1.rows).length) c35, .int .i64 ((applyT (⟨rows, md⟩ : GTable) o).1.mode)]) (ldN (T := 24) (i := 0) (m := 2) (l := [.slice A34 (((applyT (⟨rows, md⟩ : GTable) o).1.rows).length) c35, .int .i64 ((applyT (⟨rows, md⟩ : GTable) o).1.mode)]) hb51) (k := ?_)
  refine WL.callG (d := 24) (f := 22) (args := #[.agg #[.slice A15 (((applyT (⟨rows, md⟩ : GTable) o).1.rows).length) c16, .int .i64 ((applyT (⟨rows, md⟩ : GTable) o).1.mode)], .agg #[.slice A34 (((applyT (⟨rows, md⟩ : GTable) o).1.rows).length) c35, .int .i64 ((applyT (⟨rows, md⟩ : GTable) o).1.mode)]]) (u14Same_r (cp := c16) (cq := c35) (ma := (applyT (⟨rows, md⟩ : GTable) o).1.mode) (ho17.sl ekRow) (ho36.sl ekRow) (by first | omega | (simp; omega))) (k := fun e_ w53 h_ => ⟨.bool true, h_.1, ?_⟩)
  have k54 := h_.2; clear h_
  replace hb4 := k54.heap hb4 id
  replace hb10 := k54.heap hb10 id
  replace ho17 := ho17.adds k54
  replace hb31 := k54.heap hb31 id
  replace ho36 := ho36.adds k54
  replace hb51 := k54.heap hb51 id
  replace K := K.trans (k54.any _)
  refine WL.op (d := 9) (.bool true) (k := ?_)
  refine WL.nil ?_
  refine WX.seqN ?_
  refine WC.seq ?_
  refine WC.quiet (k := ?_)
  refine WQ.op (d := 25) (.bool true) (k := ?_)
  refine WQ.op (d := 26) (.bool true) (k := ?_)
  refine WQ.op (d := 27) (.int .i64 ((applyT (⟨rows, md⟩ : GTable) o).2)) (k := ?_)
  refine WQ.op (d := 28) (.int .i64 ((applyT (⟨rows, md⟩ : GTable) o).2)) (k := ?_)
  refine WQ.opE (d := 29) (.bool (((applyT (⟨rows, md⟩ : GTable) o).2) == ((applyT (⟨rows, md⟩ : GTable) o).2))) (v := .bool true) (congrArg Value.bool (beq_self_eq_true _)) (k := ?_)
  refine WQ.op (d := 30) (.bool true) (k := ?_)
  refine WQ.op (d := 31) (.bool true) (k := ?_)
  refine WQ.load (v := .agg #[.slice A rows.length cp, .int .i64 md]) (fun w_ k_ => ldN (T := 24) (i := 0) (m := 2) (l := [.slice A rows.length cp, .int .i64 md]) (k_.heap hb4 id)) (k := ?_)
  refine WQ.callG (d := 33) (f := 36) (args := #[.agg #[.slice A rows.length cp, .int .i64 md]]) (v := .bool (tokB (⟨rows, md⟩ : GTable))) (fun w_ k_ => tCheck_c (cp := cp) ((hA.adds K).adds k_) (by first | omega | simp | (simp; omega))) addsR (k := ?_)
  refine WQ.load (v := .agg #[.slice A rows.length cp, .int .i64 md]) (fun w_ k_ => ldN (T := 24) (i := 0) (m := 2) (l := [.slice A rows.length cp, .int .i64 md]) (k_.heap hb4 id)) (k := ?_)
  refine WQ.callG (d := 35) (f := 55) (args := #[.agg #[.slice A rows.length cp, .int .i64 md]]) (v := .bool (tokB (⟨rows, md⟩ : GTable))) (fun w_ k_ => u14Check_c (cp := cp) ((hA.adds K).adds k_) (by first | omega | simp | (simp; omega))) addsR (k := ?_)
  refine WQ.opE (d := 36) (.bool ((tokB (⟨rows, md⟩ : GTable)) == (tokB (⟨rows, md⟩ : GTable)))) (v := .bool true) (congrArg Value.bool (beq_self_eq_true (α := Bool) (tokB (⟨rows, md⟩ : GTable)))) (k := ?_)
  refine WQ.op (d := 37) (.bool true) (k := ?_)
  refine WQ.op (d := 4) (.bool true) (k := ?_)
  refine WQ.nilX (fun w55 k56 => ?_)
  replace hb4 := k56.heap hb4 id
  replace hb10 := k56.heap hb10 id
  replace ho17 := ho17.adds k56
  replace hb31 := k56.heap hb31 id
  replace ho36 := ho36.adds k56
  replace hb51 := k56.heap hb51 id
  replace K := K.trans (k56.any _)
  refine WX.seqN ?_
  refine WC.ret ?_
  refine WX.ret (rs := [.tmp 4]) [.bool true] (.bool true) ⟨(by kernel_rfl), trivial⟩ (k := ?_)
  exact ⟨rfl, K⟩

set_option maxRecDepth 100000 in
set_option maxHeartbeats 4000000 in
theorem tableApplies_any {A : Option Addr} {cp : Nat} {rows : List GRow} {md : Int} {w : World} (hA : SlAt rowC 6 53 A rows w) (hc : rows.length ≤ cp) {L : Option Addr} {lc : Nat} {l : List GOp} (hL : SlAt opC 10 46 L l w) (hl : l.length ≤ 9223372036854775807) (o : GOp) : Calls Try.prog 5 #[.agg #[.slice A rows.length cp, .int .i64 md], .slice L l.length lc, o.val] w fun e w' => e = .returned (.bool true) ∧ Adds w w' := by
  have K : Keeps (fun _ => False) w w := Keeps.refl _ w
  refine Calls.start Try.func5 rfl (by kernel_rfl) ?_
  refine WC.seq ?_
  refine WC.region ?_
  refine WL.new (d := 3) (T := 24) #[.slice A rows.length cp, .int .i64 md] (k := fun b1 w2 g3 hb4 k5 => ?_)
  have z6 := Nat.le_trans K.size g3
  replace K := K.trans (k5.any _)
  refine WL.new (d := 5) (T := 46) (Value.cells (GOp.val o)) (k := fun b7 w8 g9 hb10 k11 => ?_)
  have z12 := Nat.le_trans K.size g9
  have n13 : b1 ≠ b7 := Nat.ne_of_lt (Nat.lt_of_lt_of_le (lt_of_heap hb4) g9)
  replace hb4 := k11.heap hb4 id
  replace K := K.trans (k11.any _)
  refine WL.op (d := 6) (.bool false) (k := ?_)
  refine WL.nil ?_
  refine WX.seqN ?_
  refine WC.seq ?_
  refine WC.region ?_
  refine WL.callG (d := 8) (f := 16) (args := #[]) (l14awake_c w8) (k := fun e_ w14 h_ => ⟨.bool true, h_.1, ?_⟩)
  have k15 := h_.2; clear h_
  replace hb4 := k15.heap hb4 id
  replace hb10 := k15.heap hb10 id
  replace K := K.trans (k15.any _)
  refine WL.op (d := 7) (.bool true) (k := ?_)
  refine WL.nil ?_
  refine WX.seqN ?_
  refine WC.seq ?_
  refine WC.mixed (fun _ => False) 27 (k := fun w16 k17 => ?_)
  replace hb4 := k17.heap hb4 id
  replace hb10 := k17.heap hb10 id
  replace K := K.trans (k17.any _)
  have KC := Keeps.refl (fun _ => False) w16
  have bh18 := hb4
  have bh19 := hb10
  have Kb := K
  refine WA.quiet 0 (d := 9) (.bool true) KC (hi := rfl) (k := ?_)
  refine WA.quiet 1 (d := 10) (.bool true) KC (hi := rfl) (k := ?_)
  refine WA.quietR 2 (d := 11) (.agg #[.slice A rows.length cp, .int .i64 md]) KC (exec_load (fun w_ k_ => ldN (T := 24) (i := 0) (m := 2) (l := [.slice A rows.length cp, .int .i64 md]) (k_.heap bh18 id))) (hi := rfl) (k := ?_)
  refine WA.quietR 4 (d := 13) (GOp.val o) KC (exec_load (fun w_ k_ => ldN (T := 46) (i := 0) (m := 10) (l := (Value.cells (GOp.val o)).toList) (k_.heap bh19 id))) (hi := rfl) (k := ?_)
  refine WA.step 3 (hi := rfl) (k := ?_)
  have hs20 := SlAt.take hA 18
  refine WL.callG (d := 12) (f := 20) (args := #[.agg #[.slice A rows.length cp, .int .i64 md]]) (l14few_c (md := md) (hA.adds K) (by omega)) (k := fun e_ w23 h_ => ⟨.agg #[.slice A ((List.take 18 rows).length) cp, .int .i64 md], h_.1, ?_⟩)
  have k24 := h_.2; clear h_
  replace hb4 := k24.heap hb4 id
  replace hb10 := k24.heap hb10 id
  replace K := K.trans (k24.any _)
  replace KC := KC.trans (k24.any _)
  have fl21 : (List.take 18 rows).length ≤ 18 := by simp; omega
  have fl22 : (List.take 18 rows).length ≤ cp := by simp; omega
  refine WL.nil ?_
  refine WX.nxt KC ?_
  refine WA.step 5 (hi := rfl) (k := ?_)
  refine WL.callG (d := 14) (f := 27) (args := #[.agg #[.slice A ((List.take 18 rows).length) cp, .int .i64 md], GOp.val o]) (l14applies_c (cp := cp) (hs20.adds K) (by omega) (by omega) md o) (k := fun e_ w25 h_ => ⟨.bool true, h_.1, ?_⟩)
  have k26 := h_.2; clear h_
  replace hb4 := k26.heap hb4 id
  replace hb10 := k26.heap hb10 id
  replace K := K.trans (k26.any _)
  replace KC := KC.trans (k26.any _)
  refine WL.nil ?_
  refine WX.nxt KC ?_
  refine WA.quiet 6 (d := 15) (.bool true) KC (hi := rfl) (k := ?_)
  refine WA.quiet 7 (d := 16) (.bool true) KC (hi := rfl) (k := ?_)
  refine WA.quietR 8 (d := 17) (.agg #[.slice A rows.length cp, .int .i64 md]) KC (exec_load (fun w_ k_ => ldN (T := 24) (i := 0) (m := 2) (l := [.slice A rows.length cp, .int .i64 md]) (k_.heap bh18 id))) (hi := rfl) (k := ?_)
  refine WA.quietR 10 (d := 19) (GOp.val o) KC (exec_load (fun w_ k_ => ldN (T := 46) (i := 0) (m := 10) (l := (Value.cells (GOp.val o)).toList) (k_.heap bh19 id))) (hi := rfl) (k := ?_)
  refine WA.step 9 (hi := rfl) (k := ?_)
  have hs27 := SlAt.take hA 18
  refine WL.callG (d := 18) (f := 20) (args := #[.agg #[.slice A rows.length cp, .int .i64 md]]) (l14few_c (md := md) (hA.adds K) (by omega)) (k := fun e_ w30 h_ => ⟨.agg #[.slice A ((List.take 18 rows).length) cp, .int .i64 md], h_.1, ?_⟩)
  have k31 := h_.2; clear h_
  replace hb4 := k31.heap hb4 id
  replace hb10 := k31.heap hb10 id
  replace K := K.trans (k31.any _)
  replace KC := KC.trans (k31.any _)
  have fl28 : (List.take 18 rows).length ≤ 18 := by simp; omega
  have fl29 : (List.take 18 rows).length ≤ cp := by simp; omega
  refine WL.nil ?_
  refine WX.nxt KC ?_
  refine WA.step 11 (hi := rfl) (k := ?_)
  refine WL.callG (d := 20) (f := 28) (args := #[GOp.val o]) (l14near_c o w30) (k := fun e_ w32 h_ => ⟨GOp.val (nearOp o), h_.1, ?_⟩)
  have k33 := h_.2; clear h_
  replace hb4 := k33.heap hb4 id
  replace hb10 := k33.heap hb10 id
  replace K := K.trans (k33.any _)
  replace KC := KC.trans (k33.any _)
  refine WL.nil ?_
  refine WX.nxt KC ?_
  refine WA.step 12 (hi := rfl) (k := ?_)
  refine WL.callG (d := 21) (f := 27) (args := #[.agg #[.slice A ((List.take 18 rows).length) cp, .int .i64 md], GOp.val (nearOp o)]) (l14applies_c (cp := cp) (hs27.adds K) (by omega) (by omega) md (nearOp o)) (k := fun e_ w34 h_ => ⟨.bool true, h_.1, ?_⟩)
  have k35 := h_.2; clear h_
  replace hb4 := k35.heap hb4 id
  replace hb10 := k35.heap hb10 id
  replace K := K.trans (k35.any _)
  replace KC := KC.trans (k35.any _)
  refine WL.nil ?_
  refine WX.nxt KC ?_
  refine WA.quiet 13 (d := 22) (.bool true) KC (hi := rfl) (k := ?_)
  refine WA.quiet 14 (d := 23) (.bool true) KC (hi := rfl) (k := ?_)
  refine WA.quiet 15 (d := 24) (.slice L l.length lc) KC (hi := rfl) (k := ?_)
  refine WA.quietR 17 (d := 26) (GOp.val o) KC (exec_load (fun w_ k_ => ldN (T := 46) (i := 0) (m := 10) (l := (Value.cells (GOp.val o)).toList) (k_.heap bh19 id))) (hi := rfl) (k := ?_)
  refine WA.step 16 (hi := rfl) (k := ?_)
  refine WL.callG (d := 25) (f := 18) (args := #[.slice L l.length lc]) (l14made_c (lc := lc) (hL.adds K) (by omega)) (k := fun e_ w36 h_ => ?_)
  obtain ⟨A37, c38, rfl, ho39, k40, ol41⟩ := h_
  refine ⟨_, rfl, ?_⟩
  have ol42 := fun i h => Nat.le_trans K.size (ol41 i h)
  replace hb4 := k40.heap hb4 id
  replace hb10 := k40.heap hb10 id
  replace K := K.trans (k40.any _)
  replace KC := KC.trans (k40.any _)
  clear ol41
  have ml43 := madeT_len l
  refine WL.nil ?_
  refine WX.nxt KC ?_
  refine WA.step 18 (hi := rfl) (k := ?_)
  have oc44 := SlAt.cell ho39
  refine WL.callG (d := 27) (f := 27) (args := #[.agg #[.slice A37 (((madeT l).rows).length) c38, .int .i64 ((madeT l).mode)], GOp.val o]) (l14applies_c (cp := c38) (ho39.sl ekRow) (by omega) (by omega) ((madeT l).mode) o) (k := fun e_ w45 h_ => ⟨.bool true, h_.1, ?_⟩)
  have k46 := h_.2; clear h_
  replace hb4 := k46.heap hb4 id
  replace hb10 := k46.heap hb10 id
  replace ho39 := ho39.adds k46
  replace K := K.trans (k46.any _)
  replace KC := KC.trans (k46.any _)
  refine WL.nil ?_
  refine WX.nxt KC ?_
  refine WA.quiet 19 (d := 28) (.bool true) KC (hi := rfl) (k := ?_)
  refine WA.quiet 20 (d := 29) (.bool true) KC (hi := rfl) (k := ?_)
  refine WA.quiet 21 (d := 30) (.slice L l.length lc) KC (hi := rfl) (k := ?_)
  refine WA.quietR 23 (d := 32) (GOp.val o) KC (exec_load (fun w_ k_ => ldN (T := 46) (i := 0) (m := 10) (l := (Value.cells (GOp.val o)).toList) (k_.heap bh19 id))) (hi := rfl) (k := ?_)
  refine WA.step 22 (hi := rfl) (k := ?_)
  refine WL.callG (d := 31) (f := 18) (args := #[.slice L l.length lc]) (l14made_c (lc := lc) (hL.adds K) (by omega)) (k := fun e_ w47 h_ => ?_)
  obtain ⟨A48, c49, rfl, ho50, k51, ol52⟩ := h_
  refine ⟨_, rfl, ?_⟩
  have ol53 := fun i h => Nat.le_trans K.size (ol52 i h)
  replace hb4 := k51.heap hb4 id
  replace hb10 := k51.heap hb10 id
  replace ho39 := ho39.adds k51
  replace K := K.trans (k51.any _)
  replace KC := KC.trans (k51.any _)
  clear ol52
  have ml54 := madeT_len l
  refine WL.nil ?_
  refine WX.nxt KC ?_
  refine WA.step 24 (hi := rfl) (k := ?_)
  refine WL.callG (d := 33) (f := 28) (args := #[GOp.val o]) (l14near_c o w47) (k := fun e_ w55 h_ => ⟨GOp.val (nearOp o), h_.1, ?_⟩)
  have k56 := h_.2; clear h_
  replace hb4 := k56.heap hb4 id
  replace hb10 := k56.heap hb10 id
  replace ho39 := ho39.adds k56
  replace ho50 := ho50.adds k56
  replace K := K.trans (k56.any _)
  replace KC := KC.trans (k56.any _)
  refine WL.nil ?_
  refine WX.nxt KC ?_
  refine WA.step 25 (hi := rfl) (k := ?_)
  have oc57 := SlAt.cell ho50
  refine WL.callG (d := 34) (f := 27) (args := #[.agg #[.slice A48 (((madeT l).rows).length) c49, .int .i64 ((madeT l).mode)], GOp.val (nearOp o)]) (l14applies_c (cp := c49) (ho50.sl ekRow) (by omega) (by omega) ((madeT l).mode) (nearOp o)) (k := fun e_ w58 h_ => ⟨.bool true, h_.1, ?_⟩)
  have k59 := h_.2; clear h_
  replace hb4 := k59.heap hb4 id
  replace hb10 := k59.heap hb10 id
  replace ho39 := ho39.adds k59
  replace ho50 := ho50.adds k59
  replace K := K.trans (k59.any _)
  replace KC := KC.trans (k59.any _)
  refine WL.nil ?_
  refine WX.nxt KC ?_
  refine WA.quiet 26 (d := 35) (.bool true) KC (hi := rfl) (k := ?_)
  refine WA.step 27 (hi := rfl) (k := ?_)
  refine WL.op (d := 6) (.bool true) (k := ?_)
  refine WL.nil ?_
  refine WX.nxtL ?_
  refine WA.done (k := ?_)
  clear KC
  refine WX.seqN ?_
  refine WC.ret ?_
  refine WX.ret (rs := [.tmp 6]) [.bool true] (.bool true) ⟨(by kernel_rfl), trivial⟩ (k := ?_)
  exact ⟨rfl, K⟩

end Go.Proofs.Ytpkcohhfkeinmaa
