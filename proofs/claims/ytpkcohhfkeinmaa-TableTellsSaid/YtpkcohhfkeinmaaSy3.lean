/- OpsBack, OpsRead. -/
import Derived.Test.YtpkcohhfkeinmaaSy2
import Derived.Test.YtpkcohhfkeinmaaSx4
namespace Go.Proofs.Ytpkcohhfkeinmaa
open Go.RowKit
set_option linter.unusedVariables false
set_option linter.unusedSimpArgs false

set_option maxRecDepth 100000 in
theorem l13short_c (l : List UInt8) (n : Nat) (hn : n ≤ 1000000) (hl : l.length ≤ 9223372036854775807) (w : World) : Calls Try.prog 46 #[.string ⟨l.toArray⟩, .int .i64 (n : Int)] w fun e w' => ∃ l' : List UInt8, l'.length ≤ n ∧ e = .returned (.string ⟨l'.toArray⟩) ∧ Adds w w' := by
  have K : Keeps (fun _ => False) w w := Keeps.refl _ w
  refine Calls.start Try.func46 rfl (by kernel_rfl) ?_
  refine WC.seq ?_
  refine WC.region ?_
  refine WL.op (d := 4) (.string ⟨#[]⟩) (k := ?_)
  refine WL.nil ?_
  refine WX.seqN ?_
  refine WC.seq ?_
  refine WC.seq ?_
  refine WC.region ?_
  refine WL.op (d := 5) (.string ⟨(l).toArray⟩) (k := ?_)
  refine WL.op (d := 6) (.int .i64 (l.length : Int)) (k := ?_)
  refine WL.op (d := 7) (.int .i64 (n : Int)) (k := ?_)
  refine WL.op (d := 8) (.bool (decide ((l.length : Int) > (n : Int)))) (k := ?_)
  refine WL.nil ?_
  refine WX.seqN ?_
  refine WC.cond (b := decide ((l.length : Int) > (n : Int))) (ht := fun h1 => ?_) (hf := fun h1 => ?_)
  · have ph1 := of_decide_eq_true h1
    refine WC.seq ?_
    refine WC.region ?_
    refine WL.op (d := 9) (.string ⟨(l).toArray⟩) (k := ?_)
    refine WL.op (d := 10) (.int .i64 (n : Int)) (k := ?_)
    refine WL.cut (d := 11) (vx := .string ⟨(l).toArray⟩) (lo' := none) (hi' := (some (.int .i64 (n : Int)))) (mx' := none) (v := .string ⟨(List.take n l).toArray⟩) (run_cut (T := 9) (a := 0) (b := n) (l := l) (by kernel_rfl) (.inl ⟨rfl, rfl⟩) (.inr ⟨_, _, rfl, by omega⟩) (by first | omega | (simp; omega)) (by first | omega | (simp; omega))) (k := ?_)
    refine WL.op (d := 4) (.string ⟨(List.take n l).toArray⟩) (k := ?_)
    refine WL.nil ?_
    refine WX.seqN ?_
    refine WC.ret ?_
    refine WX.seqR ?_
    refine WX.ret (rs := [.tmp 4]) [.string ⟨(List.take n l).toArray⟩] (.string ⟨(List.take n l).toArray⟩) ⟨(by kernel_rfl), trivial⟩ (k := ?_)
    exact ⟨_, (by simp; omega), rfl, K⟩
  · have ph1 := of_decide_eq_false h1
    refine WC.skip ?_
    refine WX.seqN ?_
    refine WC.seq ?_
    refine WC.region ?_
    refine WL.op (d := 12) (.string ⟨(l).toArray⟩) (k := ?_)
    refine WL.op (d := 4) (.string ⟨(l).toArray⟩) (k := ?_)
    refine WL.nil ?_
    refine WX.seqN ?_
    refine WC.ret ?_
    refine WX.ret (rs := [.tmp 4]) [.string ⟨(l).toArray⟩] (.string ⟨(l).toArray⟩) ⟨(by kernel_rfl), trivial⟩ (k := ?_)
    exact ⟨_, (by omega), rfl, K⟩

set_option maxRecDepth 100000 in
theorem opsBack_any (o : GOp) (c : UInt8) (w : World) : Calls Try.prog 15 #[o.val, .int .u8 (c.toNat : Int)] w fun e w' => e = .returned (.bool true) ∧ Adds w w' := by
  have K : Keeps (fun _ => False) w w := Keeps.refl _ w
  refine Calls.start Try.func15 rfl (by kernel_rfl) ?_
  refine WC.seq ?_
  refine WC.region ?_
  refine WL.new (d := 2) (T := 46) (Value.cells (GOp.val o)) (k := fun b1 w2 g3 hb4 k5 => ?_)
  have z6 := Nat.le_trans K.size g3
  replace K := K.trans (k5.any _)
  refine WL.op (d := 4) (.bool false) (k := ?_)
  refine WL.nil ?_
  refine WX.seqN ?_
  refine WC.seq ?_
  refine WC.region ?_
  refine WL.callG (d := 14) (f := 37) (args := #[]) (l13awake_c w2) (k := fun e_ w7 h_ => ⟨.bool true, h_.1, ?_⟩)
  have k8 := h_.2; clear h_
  replace hb4 := k8.heap hb4 id
  replace K := K.trans (k8.any _)
  refine WL.op (d := 5) (.bool true) (k := ?_)
  refine WL.nil ?_
  refine WX.seqN ?_
  refine WC.seq ?_
  refine WC.region ?_
  refine WL.load (v := GOp.val o) (ldN (T := 46) (i := 0) (m := 10) (l := (Value.cells (GOp.val o)).toList) hb4) (k := ?_)
  refine WL.callG (d := 16) (f := 39) (args := #[GOp.val o]) (u13Bare_c o w7) (k := fun e_ w9 h_ => ⟨GOp.val (GOp.bare o), h_.1, ?_⟩)
  have k10 := h_.2; clear h_
  replace hb4 := k10.heap hb4 id
  replace K := K.trans (k10.any _)
  refine WL.new (d := 6) (T := 46) #[.int .i64 0, .int .i64 0, .int .i64 0, .int .i64 0, .int .i64 0, .int .i64 0, .bool false, .int .i64 0, .int .i64 0, .int .i64 0] (k := fun b11 w12 g13 hb14 k15 => ?_)
  have z16 := Nat.le_trans K.size g13
  have n17 : b1 ≠ b11 := Nat.ne_of_lt (Nat.lt_of_lt_of_le (lt_of_heap hb4) g13)
  replace hb4 := k15.heap hb4 id
  replace K := K.trans (k15.any _)
  refine WL.store (v := GOp.val (GOp.bare o)) (i := 0) (cs' := (Value.cells (GOp.val (GOp.bare o)))) hb14 (k := fun w18 hb19 k20 => ?_)
  replace hb4 := k20.heap hb4 n17
  replace K := K.trans' k20 (fun i hi e => absurd (e ▸ hi) (Nat.not_lt.2 z16))
  clear hb14
  refine WL.nil ?_
  refine WX.seqN ?_
  refine WC.seq ?_
  refine WC.region ?_
  refine WL.load (v := GOp.val (GOp.bare o)) (ldN (T := 46) (i := 0) (m := 10) (l := (Value.cells (GOp.val (GOp.bare o))).toList) hb19) (k := ?_)
  refine WL.callG (d := 18) (f := 42) (args := #[GOp.val (GOp.bare o)]) (u13Check_c (GOp.bare o) w18) (k := fun e_ w21 h_ => ⟨.bool (decide (GOp.ok (GOp.bare o))), h_.1, ?_⟩)
  have k22 := h_.2; clear h_
  replace hb4 := k22.heap hb4 id
  replace hb19 := k22.heap hb19 id
  replace K := K.trans (k22.any _)
  refine WL.op (d := 7) (.bool (decide (GOp.ok (GOp.bare o)))) (k := ?_)
  refine WL.nil ?_
  refine WX.seqN ?_
  refine WC.seq ?_
  refine WC.seq ?_
  refine WC.region ?_
  refine WL.op (d := 19) (.bool (decide (GOp.ok (GOp.bare o)))) (k := ?_)
  refine WL.op (d := 20) (.bool (!(decide (GOp.ok (GOp.bare o))))) (k := ?_)
  refine WL.nil ?_
  refine WX.seqN ?_
  refine WC.cond (b := !(decide (GOp.ok (GOp.bare o)))) (ht := fun h23 => ?_) (hf := fun h23 => ?_)
  · have h24 : (decide (GOp.ok (GOp.bare o))) = false := by simpa using h23
    have ph24 := of_decide_eq_false h24
    refine WC.seq ?_
    refine WC.region ?_
    refine WL.op (d := 21) (.bool true) (k := ?_)
    refine WL.op (d := 22) (.bool true) (k := ?_)
    refine WL.load (v := GOp.val (GOp.bare o)) (ldN (T := 46) (i := 0) (m := 10) (l := (Value.cells (GOp.val (GOp.bare o))).toList) hb19) (k := ?_)
    refine WL.callG (d := 24) (f := 45) (args := #[GOp.val (GOp.bare o)]) (pOCheck_c (GOp.bare o) w21) (k := fun e_ w25 h_ => ⟨.bool (decide (GOp.ok (GOp.bare o))), h_.1, ?_⟩)
    have k26 := h_.2; clear h_
    replace hb4 := k26.heap hb4 id
    replace hb19 := k26.heap hb19 id
    replace K := K.trans (k26.any _)
    refine WL.op (d := 25) (.bool (!(decide (GOp.ok (GOp.bare o))))) (k := ?_)
    refine WL.op (d := 26) (.bool (!(decide (GOp.ok (GOp.bare o))))) (k := ?_)
    refine WL.op (d := 4) (.bool (!(decide (GOp.ok (GOp.bare o))))) (k := ?_)
    refine WL.nil ?_
    refine WX.seqN ?_
    refine WC.ret ?_
    refine WX.seqR ?_
    refine WX.ret (rs := [.tmp 4]) [.bool (!(decide (GOp.ok (GOp.bare o))))] (.bool (!(decide (GOp.ok (GOp.bare o))))) ⟨(by kernel_rfl), trivial⟩ (k := ?_)
    exact ⟨ret_bool h23, K⟩
  · have h27 : (decide (GOp.ok (GOp.bare o))) = true := by simpa using h23
    have ph27 := of_decide_eq_true h27
    refine WC.skip ?_
    refine WX.seqN ?_
    refine WC.seq ?_
    refine WC.region ?_
    refine WL.load (v := GOp.val (GOp.bare o)) (ldN (T := 46) (i := 0) (m := 10) (l := (Value.cells (GOp.val (GOp.bare o))).toList) hb19) (k := ?_)
    refine WL.callG (d := 29) (f := 43) (args := #[GOp.val (GOp.bare o)]) (pBytes_ok (GOp.bare o) ph27 w21) (k := fun e_ w28 h_ => ⟨.tuple #[.string ⟨(GOp.enc (GOp.bare o)).toArray⟩, .int .i64 0], h_.1, ?_⟩)
    have k29 := h_.2; clear h_
    replace hb4 := k29.heap hb4 id
    replace hb19 := k29.heap hb19 id
    replace K := K.trans (k29.any _)
    refine WL.op (d := 27) (.tuple #[.string ⟨(GOp.enc (GOp.bare o)).toArray⟩, .int .i64 0]) (k := ?_)
    refine WL.op (d := 30) (.string ⟨(GOp.enc (GOp.bare o)).toArray⟩) (k := ?_)
    refine WL.op (d := 31) (.int .i64 0) (k := ?_)
    refine WL.op (d := 8) (.string ⟨(GOp.enc (GOp.bare o)).toArray⟩) (k := ?_)
    refine WL.op (d := 9) (.int .i64 0) (k := ?_)
    refine WL.nil ?_
    refine WX.seqN ?_
    refine WC.seq ?_
    refine WC.region ?_
    refine WL.op (d := 33) (.string ⟨(GOp.enc (GOp.bare o)).toArray⟩) (k := ?_)
    refine WL.callG (d := 34) (f := 47) (args := #[.string ⟨(GOp.enc (GOp.bare o)).toArray⟩]) (pRead_enc ph27 w28) (k := fun e_ w30 h_ => ⟨.tuple #[GOp.val (GOp.bare o), .int .i64 0], h_.1, ?_⟩)
    have k31 := h_.2; clear h_
    replace hb4 := k31.heap hb4 id
    replace hb19 := k31.heap hb19 id
    replace K := K.trans (k31.any _)
    refine WL.op (d := 32) (.tuple #[GOp.val (GOp.bare o), .int .i64 0]) (k := ?_)
    refine WL.op (d := 35) (GOp.val (GOp.bare o)) (k := ?_)
    refine WL.op (d := 36) (.int .i64 0) (k := ?_)
    refine WL.new (d := 10) (T := 46) #[.int .i64 0, .int .i64 0, .int .i64 0, .int .i64 0, .int .i64 0, .int .i64 0, .bool false, .int .i64 0, .int .i64 0, .int .i64 0] (k := fun b32 w33 g34 hb35 k36 => ?_)
    have z37 := Nat.le_trans K.size g34
    have n38 : b1 ≠ b32 := Nat.ne_of_lt (Nat.lt_of_lt_of_le (lt_of_heap hb4) g34)
    have n39 : b11 ≠ b32 := Nat.ne_of_lt (Nat.lt_of_lt_of_le (lt_of_heap hb19) g34)
    replace hb4 := k36.heap hb4 id
    replace hb19 := k36.heap hb19 id
    replace K := K.trans (k36.any _)
    refine WL.store (v := GOp.val (GOp.bare o)) (i := 0) (cs' := (Value.cells (GOp.val (GOp.bare o)))) hb35 (k := fun w40 hb41 k42 => ?_)
    replace hb4 := k42.heap hb4 n38
    replace hb19 := k42.heap hb19 n39
    replace K := K.trans' k42 (fun i hi e => absurd (e ▸ hi) (Nat.not_lt.2 z37))
    clear hb35
    refine WL.op (d := 11) (.int .i64 0) (k := ?_)
    refine WL.nil ?_
    refine WX.seqN ?_
    refine WC.seq ?_
    refine WC.region ?_
    refine WL.op (d := 38) (.string ⟨(GOp.enc (GOp.bare o)).toArray⟩) (k := ?_)
    refine WL.op (d := 39) (.int .u8 (c.toNat : Int)) (k := ?_)
    refine WL.newF (d := 40) (T := 5) #[.int .u8 (c.toNat : Int)] (fun b => .slice (some ⟨b, 0, none⟩) 1 1) (k := fun b43 w44 g45 hb46 k47 => ?_)
    have z48 := Nat.le_trans K.size g45
    have n49 : b1 ≠ b43 := Nat.ne_of_lt (Nat.lt_of_lt_of_le (lt_of_heap hb4) g45)
    have n50 : b11 ≠ b43 := Nat.ne_of_lt (Nat.lt_of_lt_of_le (lt_of_heap hb19) g45)
    have n51 : b32 ≠ b43 := Nat.ne_of_lt (Nat.lt_of_lt_of_le (lt_of_heap hb41) g45)
    replace hb4 := k47.heap hb4 id
    replace hb19 := k47.heap hb19 id
    replace hb41 := k47.heap hb41 id
    replace K := K.trans (k47.any _)
    refine WL.conv (d := 41) (vx := .slice (some ⟨b43, 0, none⟩) 1 1) (v := .string ⟨#[c]⟩) (run_ofBytes (T := 39) (S := 9) (E := 5) (l := [c]) (by kernel_rfl) (by kernel_rfl) (by kernel_rfl) hb46 rfl (by kernel_rfl)) (k := ?_)
    refine WL.bin (d := 42) (v := .string ⟨((GOp.enc (GOp.bare o)) ++ [c]).toArray⟩) (cat_run (by have hE := enc_len43 (o := GOp.bare o) (by assumption); simp only [List.length_append, List.length_cons, List.length_nil]; omega)) (k := ?_)
    refine WL.callG (d := 43) (f := 47) (args := #[.string ⟨((GOp.enc (GOp.bare o)) ++ [c]).toArray⟩]) (pRead_more ph27 _ w44) (k := fun e_ w52 h_ => ⟨.tuple #[.agg #[.int .i64 0, .int .i64 0, .int .i64 0, .int .i64 0, .int .i64 0, .int .i64 0, .bool false, .int .i64 0, .int .i64 0, .int .i64 0], .int .i64 10], h_.1, ?_⟩)
    have k53 := h_.2; clear h_
    replace hb4 := k53.heap hb4 id
    replace hb19 := k53.heap hb19 id
    replace hb41 := k53.heap hb41 id
    replace hb46 := k53.heap hb46 id
    replace K := K.trans (k53.any _)
    refine WL.op (d := 37) (.tuple #[.agg #[.int .i64 0, .int .i64 0, .int .i64 0, .int .i64 0, .int .i64 0, .int .i64 0, .bool false, .int .i64 0, .int .i64 0, .int .i64 0], .int .i64 10]) (k := ?_)
    refine WL.op (d := 44) (.agg #[.int .i64 0, .int .i64 0, .int .i64 0, .int .i64 0, .int .i64 0, .int .i64 0, .bool false, .int .i64 0, .int .i64 0, .int .i64 0]) (k := ?_)
    refine WL.op (d := 45) (.int .i64 10) (k := ?_)
    refine WL.new (d := 12) (T := 46) #[.int .i64 0, .int .i64 0, .int .i64 0, .int .i64 0, .int .i64 0, .int .i64 0, .bool false, .int .i64 0, .int .i64 0, .int .i64 0] (k := fun b54 w55 g56 hb57 k58 => ?_)
    have z59 := Nat.le_trans K.size g56
    have n60 : b1 ≠ b54 := Nat.ne_of_lt (Nat.lt_of_lt_of_le (lt_of_heap hb4) g56)
    have n61 : b11 ≠ b54 := Nat.ne_of_lt (Nat.lt_of_lt_of_le (lt_of_heap hb19) g56)
    have n62 : b32 ≠ b54 := Nat.ne_of_lt (Nat.lt_of_lt_of_le (lt_of_heap hb41) g56)
    have n63 : b43 ≠ b54 := Nat.ne_of_lt (Nat.lt_of_lt_of_le (lt_of_heap hb46) g56)
    replace hb4 := k58.heap hb4 id
    replace hb19 := k58.heap hb19 id
    replace hb41 := k58.heap hb41 id
    replace hb46 := k58.heap hb46 id
    replace K := K.trans (k58.any _)
    refine WL.store (v := .agg #[.int .i64 0, .int .i64 0, .int .i64 0, .int .i64 0, .int .i64 0, .int .i64 0, .bool false, .int .i64 0, .int .i64 0, .int .i64 0]) (i := 0) (cs' := #[.int .i64 0, .int .i64 0, .int .i64 0, .int .i64 0, .int .i64 0, .int .i64 0, .bool false, .int .i64 0, .int .i64 0, .int .i64 0]) hb57 (k := fun w64 hb65 k66 => ?_)
    replace hb4 := k66.heap hb4 n60
    replace hb19 := k66.heap hb19 n61
    replace hb41 := k66.heap hb41 n62
    replace hb46 := k66.heap hb46 n63
    replace K := K.trans' k66 (fun i hi e => absurd (e ▸ hi) (Nat.not_lt.2 z59))
    clear hb57
    refine WL.op (d := 13) (.int .i64 10) (k := ?_)
    refine WL.nil ?_
    refine WX.seqN ?_
    refine WC.seq ?_
    refine WC.region ?_
    refine WL.op (d := 46) (.bool true) (k := ?_)
    refine WL.op (d := 47) (.bool true) (k := ?_)
    refine WL.op (d := 48) (.int .i64 0) (k := ?_)
    refine WL.op (d := 49) (.bool true) (k := ?_)
    refine WL.op (d := 50) (.bool true) (k := ?_)
    refine WL.op (d := 51) (.bool true) (k := ?_)
    refine WL.op (d := 52) (.int .i64 0) (k := ?_)
    refine WL.op (d := 53) (.bool true) (k := ?_)
    refine WL.op (d := 54) (.bool true) (k := ?_)
    refine WL.op (d := 55) (.bool true) (k := ?_)
    refine WL.load (v := GOp.val (GOp.bare o)) (ldN (T := 46) (i := 0) (m := 10) (l := (Value.cells (GOp.val (GOp.bare o))).toList) hb41) (k := ?_)
    refine WL.load (v := GOp.val (GOp.bare o)) (ldN (T := 46) (i := 0) (m := 10) (l := (Value.cells (GOp.val (GOp.bare o))).toList) hb19) (k := ?_)
    refine WL.bin (d := 58) (v := .bool true) (eqOpS (GOp.bare o) _) (k := ?_)
    refine WL.op (d := 59) (.bool true) (k := ?_)
    refine WL.op (d := 60) (.bool true) (k := ?_)
    refine WL.op (d := 61) (.int .i64 10) (k := ?_)
    refine WL.op (d := 62) (.bool true) (k := ?_)
    refine WL.op (d := 63) (.bool true) (k := ?_)
    refine WL.op (d := 64) (.bool true) (k := ?_)
    refine WL.op (d := 65) (.string ⟨(GOp.enc (GOp.bare o)).toArray⟩) (k := ?_)
    refine WL.op (d := 66) (.int .i64 ((GOp.enc (GOp.bare o)).length : Int)) (k := ?_)
    refine WL.op (d := 67) (.bool (decide (((GOp.enc (GOp.bare o)).length : Int) ≤ 43))) (k := ?_)
    refine WL.op (d := 68) (.bool (decide (((GOp.enc (GOp.bare o)).length : Int) ≤ 43))) (k := ?_)
    refine WL.op (d := 4) (.bool (decide (((GOp.enc (GOp.bare o)).length : Int) ≤ 43))) (k := ?_)
    refine WL.nil ?_
    refine WX.seqN ?_
    refine WC.ret ?_
    refine WX.ret (rs := [.tmp 4]) [.bool (decide (((GOp.enc (GOp.bare o)).length : Int) ≤ 43))] (.bool (decide (((GOp.enc (GOp.bare o)).length : Int) ≤ 43))) ⟨(by kernel_rfl), trivial⟩ (k := ?_)
    exact ⟨ret_bool (by have := enc_len43 (o := GOp.bare o) (by assumption); simp; omega), K⟩

set_option maxRecDepth 100000 in
theorem opsRead_any (o : GOp) (l : List UInt8) (hl : l.length ≤ 9223372036854775807) (q0 q1 q2 : Int) (w : World) : Calls Try.prog 14 #[o.val, .string ⟨l.toArray⟩, .agg #[.int .i64 q0, .int .i64 q1, .int .i64 q2]] w fun e w' => e = .returned (.bool true) ∧ Adds w w' := by
  have K : Keeps (fun _ => False) w w := Keeps.refl _ w
  refine Calls.start Try.func14 rfl (by kernel_rfl) ?_
  refine WC.seq ?_
  refine WC.region ?_
  refine WL.new (d := 3) (T := 46) (Value.cells (GOp.val o)) (k := fun b1 w2 g3 hb4 k5 => ?_)
  have z6 := Nat.le_trans K.size g3
  replace K := K.trans (k5.any _)
  refine WL.new (d := 5) (T := 34) #[.int .i64 q0, .int .i64 q1, .int .i64 q2] (k := fun b7 w8 g9 hb10 k11 => ?_)
  have z12 := Nat.le_trans K.size g9
  have n13 : b1 ≠ b7 := Nat.ne_of_lt (Nat.lt_of_lt_of_le (lt_of_heap hb4) g9)
  replace hb4 := k11.heap hb4 id
  replace K := K.trans (k11.any _)
  refine WL.op (d := 6) (.bool false) (k := ?_)
  refine WL.nil ?_
  refine WX.seqN ?_
  refine WC.seq ?_
  refine WC.region ?_
  refine WL.callG (d := 16) (f := 37) (args := #[]) (l13awake_c w8) (k := fun e_ w14 h_ => ⟨.bool true, h_.1, ?_⟩)
  have k15 := h_.2; clear h_
  replace hb4 := k15.heap hb4 id
  replace hb10 := k15.heap hb10 id
  replace K := K.trans (k15.any _)
  refine WL.op (d := 7) (.bool true) (k := ?_)
  refine WL.nil ?_
  refine WX.seqN ?_
  refine WC.seq ?_
  refine WC.region ?_
  refine WL.op (d := 17) (.string ⟨(l).toArray⟩) (k := ?_)
  refine WL.callG (d := 18) (f := 46) (args := #[.string ⟨(l).toArray⟩, .int .i64 50]) (l13short_c l 50 (by omega) (by show List.length l ≤ _; first | omega | (simp; omega)) w14) (k := fun e_ w16 h_ => ?_)
  obtain ⟨l17, hl18, rfl, k19⟩ := h_
  refine ⟨_, rfl, ?_⟩
  replace hb4 := k19.heap hb4 id
  replace hb10 := k19.heap hb10 id
  replace K := K.trans (k19.any _)
  refine WL.op (d := 1) (.string ⟨(l17).toArray⟩) (k := ?_)
  refine WL.nil ?_
  refine WX.seqN ?_
  refine WC.seq ?_
  refine WC.seq ?_
  refine WC.region ?_
  refine WL.op (d := 19) (.pointer (some ⟨b7, 0, none⟩)) (k := ?_)
  refine WL.load (v := .int .i64 q0) (ld1 (T := 3) (i := 0) hb10) (k := ?_)
  refine WL.bin (d := 21) (v := .int .i64 (bits BinOp.and IntKind.i64 q0 3)) (bits_run (by decide)) (k := ?_)
  refine WL.op (d := 22) (.bool ((bits BinOp.and IntKind.i64 q0 3) != 0)) (k := ?_)
  refine WL.nil ?_
  refine WX.seqN ?_
  refine WC.cond (b := (bits BinOp.and IntKind.i64 q0 3) != 0) (ht := fun h20 => ?_) (hf := fun h20 => ?_)
  · have ph20 := bne_iff_ne.1 h20
    refine WC.seq ?_
    refine WC.region ?_
    refine WL.load (v := GOp.val o) (ldN (T := 46) (i := 0) (m := 10) (l := (Value.cells (GOp.val o)).toList) hb4) (k := ?_)
    refine WL.callG (d := 25) (f := 39) (args := #[GOp.val o]) (u13Bare_c o w16) (k := fun e_ w21 h_ => ⟨GOp.val (GOp.bare o), h_.1, ?_⟩)
    have k22 := h_.2; clear h_
    replace hb4 := k22.heap hb4 id
    replace hb10 := k22.heap hb10 id
    replace K := K.trans (k22.any _)
    refine bsplit (decide (GOp.ok (GOp.bare o))) (fun h23 => ?_) (fun h23 => ?_)
    · have ph23 := of_decide_eq_true h23
      refine WL.callG (d := 26) (f := 31) (args := #[GOp.val (GOp.bare o)]) (u13Bytes_ok (GOp.bare o) ph23 w21) (k := fun e_ w25 h_ => ⟨.tuple #[.string ⟨(GOp.enc (GOp.bare o)).toArray⟩, .int .i64 0], h_.1, ?_⟩)
      have k26 := h_.2; clear h_
      replace hb4 := k26.heap hb4 id
      replace hb10 := k26.heap hb10 id
      replace K := K.trans (k26.any _)
      have ln24 := enc_len43 ph23
      refine WL.op (d := 23) (.tuple #[.string ⟨(GOp.enc (GOp.bare o)).toArray⟩, .int .i64 0]) (k := ?_)
      refine WL.op (d := 27) (.string ⟨(GOp.enc (GOp.bare o)).toArray⟩) (k := ?_)
      refine WL.op (d := 28) (.int .i64 0) (k := ?_)
      refine WL.op (d := 8) (.string ⟨(GOp.enc (GOp.bare o)).toArray⟩) (k := ?_)
      refine WL.op (d := 9) (.int .i64 0) (k := ?_)
      refine WL.nil ?_
      refine WX.seqN ?_
      refine WC.seq ?_
      refine WC.region ?_
      refine WL.op (d := 29) (.string ⟨(GOp.enc (GOp.bare o)).toArray⟩) (k := ?_)
      obtain ⟨b27, c28, w29, g30, hc31, hy32, k33⟩ := run_toBytesB (GOp.enc (GOp.bare o)) w25
      refine WL.conv (d := 30) (vx := .string ⟨(GOp.enc (GOp.bare o)).toArray⟩) (v := .slice (some ⟨b27, 0, none⟩) ((GOp.enc (GOp.bare o)).length) c28) hc31 (k := ?_)
      clear hc31
      have z34 := Nat.le_trans K.size g30
      have n35 : b1 ≠ b27 := Nat.ne_of_lt (Nat.lt_of_lt_of_le (lt_of_heap hb4) g30)
      have n36 : b7 ≠ b27 := Nat.ne_of_lt (Nat.lt_of_lt_of_le (lt_of_heap hb10) g30)
      replace hb4 := k33.heap hb4 id
      replace hb10 := k33.heap hb10 id
      replace K := K.trans (k33.any _)
      refine WL.op (d := 10) (.slice (some ⟨b27, 0, none⟩) ((GOp.enc (GOp.bare o)).length) c28) (k := ?_)
      refine WL.nil ?_
      refine WX.seqN ?_
      refine WC.seq ?_
      refine WC.region ?_
      refine WL.op (d := 31) (.slice (some ⟨b27, 0, none⟩) ((GOp.enc (GOp.bare o)).length) c28) (k := ?_)
      refine WL.op (d := 32) (.int .i64 ((GOp.enc (GOp.bare o)).length : Int)) (k := ?_)
      refine WL.op (d := 33) (.bool (decide (((GOp.enc (GOp.bare o)).length : Int) > 0))) (k := ?_)
      refine WL.nil ?_
      refine WX.seqN ?_
      refine WC.cond (b := decide (((GOp.enc (GOp.bare o)).length : Int) > 0)) (ht := fun h37 => ?_) (hf := fun h37 => ?_)
      · have ph37 := of_decide_eq_true h37
        refine WC.seq ?_
        refine WC.region ?_
        refine WL.op (d := 34) (.pointer (some ⟨b7, 1, none⟩)) (k := ?_)
        refine WL.load (v := .int .i64 q1) (ld1 (T := 3) (i := 1) hb10) (k := ?_)
        refine WL.op (d := 36) (.slice (some ⟨b27, 0, none⟩) ((GOp.enc (GOp.bare o)).length) c28) (k := ?_)
        refine WL.op (d := 37) (.int .i64 ((GOp.enc (GOp.bare o)).length : Int)) (k := ?_)
        refine WL.bin (d := 38) (v := .int .i64 (Int.tmod q1 ((GOp.enc (GOp.bare o)).length : Int))) (rem_run (by omega)) (k := ?_)
        have m38 := tmod_rng q1 ((GOp.enc (GOp.bare o)).length : Int) (by omega)
        obtain ⟨r39, e40⟩ : ∃ r : Int, Int.tmod q1 ((GOp.enc (GOp.bare o)).length : Int) = r := ⟨_, rfl⟩
        rw [e40] at m38
        refine WL.rw (t := 38) (v := .int .i64 r39) (congrArg (Value.int .i64) e40) (k := ?_)
        refine WL.op (d := 39) (.slice (some ⟨b27, 0, none⟩) ((GOp.enc (GOp.bare o)).length) c28) (k := ?_)
        refine WL.op (d := 40) (.int .i64 ((GOp.enc (GOp.bare o)).length : Int)) (k := ?_)
        refine WL.opE (d := 41) (.int .i64 (IntKind.i64.wrap (r39 + ((GOp.enc (GOp.bare o)).length : Int)))) (v := .int .i64 (r39 + ((GOp.enc (GOp.bare o)).length : Int))) (congrArg (Value.int .i64) (IntWalk.i64_in _ (by omega))) (k := ?_)
        refine WL.op (d := 42) (.slice (some ⟨b27, 0, none⟩) ((GOp.enc (GOp.bare o)).length) c28) (k := ?_)
        refine WL.op (d := 43) (.int .i64 ((GOp.enc (GOp.bare o)).length : Int)) (k := ?_)
        refine WL.bin (d := 44) (v := .int .i64 (Int.tmod (r39 + ((GOp.enc (GOp.bare o)).length : Int)) ((GOp.enc (GOp.bare o)).length : Int))) (rem_run (by omega)) (k := ?_)
        have m41 := tmod_rng (r39 + ((GOp.enc (GOp.bare o)).length : Int)) ((GOp.enc (GOp.bare o)).length : Int) (by omega)
        obtain ⟨r42, e43⟩ : ∃ r : Int, Int.tmod (r39 + ((GOp.enc (GOp.bare o)).length : Int)) ((GOp.enc (GOp.bare o)).length : Int) = r := ⟨_, rfl⟩
        rw [e43] at m41
        refine WL.rw (t := 44) (v := .int .i64 r42) (congrArg (Value.int .i64) e43) (k := ?_)
        refine WL.op (d := 11) (.int .i64 r42) (k := ?_)
        refine WL.nil ?_
        refine WX.seqN ?_
        refine WC.seq ?_
        refine WC.tail 11 (k := ?_)
        refine WQ.op (d := 45) (.slice (some ⟨b27, 0, none⟩) ((GOp.enc (GOp.bare o)).length) c28) (k := ?_)
        refine WQ.op (d := 46) (.int .i64 r42) (k := ?_)
        refine WQ.op (d := 47) (.slice (some ⟨b27, 0, none⟩) ((GOp.enc (GOp.bare o)).length) c28) (k := ?_)
        refine WQ.op (d := 48) (.int .i64 r42) (k := ?_)
        refine WQ.idx (T := 39) (E := 5) (m := 1) (b := b27) (o := 0) (len := (GOp.enc (GOp.bare o)).length) (cap := c28) (i := r42) (kk := .i64) (d := 49) (by omega) (by omega) (k := ?_)
        refine WQ.load (v := .int .u8 (((GOp.enc (GOp.bare o))[0 + (r42).toNat * 1]'(by omega)).toNat : Int)) (fun w_ k_ => bytes_ld (i := 0 + (r42).toNat * 1) (hy32.keeps k_ id) (by omega)) (k := ?_)
        refine WQ.op (d := 51) (.pointer (some ⟨b7, 2, none⟩)) (k := ?_)
        refine WQ.load (v := .int .i64 q2) (fun w_ k_ => ld1 (T := 3) (i := 2) (k_.heap hb10 id)) (k := ?_)
        refine WQ.op (d := 53) (.int .u8 (IntKind.u8.wrap q2)) (k := ?_)
        refine WQ.bin (d := 54) (v := .int .u8 (bits BinOp.xor IntKind.u8 (((GOp.enc (GOp.bare o))[0 + (r42).toNat * 1]'(by omega)).toNat : Int) (IntKind.u8.wrap q2))) (fun _ => bits_run (by decide)) (k := ?_)
        refine WQ.idx (T := 39) (E := 5) (m := 1) (b := b27) (o := 0) (len := (GOp.enc (GOp.bare o)).length) (cap := c28) (i := r42) (kk := .i64) (d := 55) (by omega) (by omega) (k := ?_)
        refine WQ.nilL (fun w44 k45 => ?_)
        replace hb4 := k45.heap hb4 id
        replace hb10 := k45.heap hb10 id
        replace hy32 := hy32.keeps k45 id
        replace K := K.trans (k45.any _)
        obtain ⟨u46, hu47⟩ := bits_u8 BinOp.xor (((GOp.enc (GOp.bare o))[0 + (r42).toNat * 1]'(by omega)).toNat : Int) (IntKind.u8.wrap q2)
        refine WL.rw (t := 54) (v := .int .u8 (u46.toNat : Int)) (congrArg (Value.int .u8) hu47) (k := ?_)
        obtain ⟨w48, hs49, hy50, k51⟩ := bytes_st (i := 0 + (r42).toNat * 1) hy32 (by omega) u46
        refine WL.wr (v := .int .u8 (u46.toNat : Int)) hs49 (k := ?_)
        replace hb4 := k51.heap hb4 n35
        replace hb10 := k51.heap hb10 n36
        replace K := K.trans' k51 (fun i hi e => absurd (e ▸ hi) (Nat.not_lt.2 z34))
        clear hs49 hy32
        refine WL.nil ?_
        refine WX.seqN ?_
        refine WC.seq ?_
        refine WC.region ?_
        refine WL.op (d := 56) (.slice (some ⟨b27, 0, none⟩) ((GOp.enc (GOp.bare o)).length) c28) (k := ?_)
        refine WL.conv (d := 57) (vx := .slice (some ⟨b27, 0, none⟩) ((GOp.enc (GOp.bare o)).length) c28) (v := .string ⟨(List.set (GOp.enc (GOp.bare o)) (0 + (r42).toNat * 1) u46).toArray⟩) (bytes_strN hy50 (by simp)) (k := ?_)
        refine WL.op (d := 1) (.string ⟨(List.set (GOp.enc (GOp.bare o)) (0 + (r42).toNat * 1) u46).toArray⟩) (k := ?_)
        refine WL.nil ?_
        refine WX.seqN ?_
        refine WC.seq ?_
        refine WC.region ?_
        refine WL.op (d := 58) (.pointer (some ⟨b7, 0, none⟩)) (k := ?_)
        refine WL.load (v := .int .i64 q0) (ld1 (T := 3) (i := 0) hb10) (k := ?_)
        refine WL.bin (d := 60) (v := .int .i64 (bits BinOp.and IntKind.i64 q0 3)) (bits_run (by decide)) (k := ?_)
        refine WL.op (d := 61) (.bool ((bits BinOp.and IntKind.i64 q0 3) == 3)) (k := ?_)
        refine WL.nil ?_
        refine WX.seqN ?_
        refine WC.cond (b := (bits BinOp.and IntKind.i64 q0 3) == 3) (ht := fun h52 => ?_) (hf := fun h52 => ?_)
        · have ph52 := eq_of_beq h52
          refine WC.region ?_
          refine WL.op (d := 62) (.string ⟨(List.set (GOp.enc (GOp.bare o)) (0 + (r42).toNat * 1) u46).toArray⟩) (k := ?_)
          refine WL.op (d := 63) (.int .i64 r42) (k := ?_)
          refine WL.cut (d := 64) (vx := .string ⟨(List.set (GOp.enc (GOp.bare o)) (0 + (r42).toNat * 1) u46).toArray⟩) (lo' := none) (hi' := (some (.int .i64 r42))) (mx' := none) (v := .string ⟨(List.take r42.toNat (List.set (GOp.enc (GOp.bare o)) (0 + (r42).toNat * 1) u46)).toArray⟩) (run_cut (T := 9) (a := 0) (b := r42.toNat) (l := (List.set (GOp.enc (GOp.bare o)) (0 + (r42).toNat * 1) u46)) (by kernel_rfl) (.inl ⟨rfl, rfl⟩) (.inr ⟨_, _, rfl, by omega⟩) (by first | omega | (simp; omega)) (by first | omega | (simp; omega))) (k := ?_)
          refine WL.op (d := 1) (.string ⟨(List.take r42.toNat (List.set (GOp.enc (GOp.bare o)) (0 + (r42).toNat * 1) u46)).toArray⟩) (k := ?_)
          refine WL.nil ?_
          refine WX.seqN ?_
          refine WC.seq ?_
          refine WC.region ?_
          refine WL.op (d := 66) (.string ⟨(List.take r42.toNat (List.set (GOp.enc (GOp.bare o)) (0 + (r42).toNat * 1) u46)).toArray⟩) (k := ?_)
          refine WL.callG (d := 67) (f := 47) (args := #[.string ⟨(List.take r42.toNat (List.set (GOp.enc (GOp.bare o)) (0 + (r42).toNat * 1) u46)).toArray⟩]) (pRead_v (List.take r42.toNat (List.set (GOp.enc (GOp.bare o)) (0 + (r42).toNat * 1) u46)) (by show List.length (List.take r42.toNat (List.set (GOp.enc (GOp.bare o)) (0 + (r42).toNat * 1) u46)) ≤ _; first | omega | (simp; omega)) w48) (k := fun e_ w53 h_ => ⟨.tuple #[GOp.val (opVal (opOf (List.take r42.toNat (List.set (GOp.enc (GOp.bare o)) (0 + (r42).toNat * 1) u46)))), .int .i64 (opErr (opOf (List.take r42.toNat (List.set (GOp.enc (GOp.bare o)) (0 + (r42).toNat * 1) u46))))], h_.1, ?_⟩)
          have k54 := h_.2; clear h_
          replace hb4 := k54.heap hb4 id
          replace hb10 := k54.heap hb10 id
          replace hy50 := hy50.keeps k54 id
          replace K := K.trans (k54.any _)
          refine WL.op (d := 65) (.tuple #[GOp.val (opVal (opOf (List.take r42.toNat (List.set (GOp.enc (GOp.bare o)) (0 + (r42).toNat * 1) u46)))), .int .i64 (opErr (opOf (List.take r42.toNat (List.set (GOp.enc (GOp.bare o)) (0 + (r42).toNat * 1) u46))))]) (k := ?_)
          refine WL.op (d := 68) (GOp.val (opVal (opOf (List.take r42.toNat (List.set (GOp.enc (GOp.bare o)) (0 + (r42).toNat * 1) u46))))) (k := ?_)
          refine WL.op (d := 69) (.int .i64 (opErr (opOf (List.take r42.toNat (List.set (GOp.enc (GOp.bare o)) (0 + (r42).toNat * 1) u46))))) (k := ?_)
          refine WL.new (d := 12) (T := 46) #[.int .i64 0, .int .i64 0, .int .i64 0, .int .i64 0, .int .i64 0, .int .i64 0, .bool false, .int .i64 0, .int .i64 0, .int .i64 0] (k := fun b55 w56 g57 hb58 k59 => ?_)
          have z60 := Nat.le_trans K.size g57
          have n61 : b1 ≠ b55 := Nat.ne_of_lt (Nat.lt_of_lt_of_le (lt_of_heap hb4) g57)
          have n62 : b7 ≠ b55 := Nat.ne_of_lt (Nat.lt_of_lt_of_le (lt_of_heap hb10) g57)
          have n63 : b27 ≠ b55 := Nat.ne_of_lt (Nat.lt_of_lt_of_le hy50.lt g57)
          replace hb4 := k59.heap hb4 id
          replace hb10 := k59.heap hb10 id
          replace hy50 := hy50.keeps k59 id
          replace K := K.trans (k59.any _)
          refine WL.store (v := GOp.val (opVal (opOf (List.take r42.toNat (List.set (GOp.enc (GOp.bare o)) (0 + (r42).toNat * 1) u46))))) (i := 0) (cs' := (Value.cells (GOp.val (opVal (opOf (List.take r42.toNat (List.set (GOp.enc (GOp.bare o)) (0 + (r42).toNat * 1) u46))))))) hb58 (k := fun w64 hb65 k66 => ?_)
          replace hb4 := k66.heap hb4 n61
          replace hb10 := k66.heap hb10 n62
          replace hy50 := hy50.keeps k66 n63
          replace K := K.trans' k66 (fun i hi e => absurd (e ▸ hi) (Nat.not_lt.2 z60))
          clear hb58
          refine WL.op (d := 13) (.int .i64 (opErr (opOf (List.take r42.toNat (List.set (GOp.enc (GOp.bare o)) (0 + (r42).toNat * 1) u46))))) (k := ?_)
          refine WL.nil ?_
          refine WX.seqN ?_
          refine WC.seq ?_
          refine WC.region ?_
          refine WL.op (d := 71) (.string ⟨(List.take r42.toNat (List.set (GOp.enc (GOp.bare o)) (0 + (r42).toNat * 1) u46)).toArray⟩) (k := ?_)
          refine WL.callG (d := 72) (f := 48) (args := #[.string ⟨(List.take r42.toNat (List.set (GOp.enc (GOp.bare o)) (0 + (r42).toNat * 1) u46)).toArray⟩]) (u13Read_v (List.take r42.toNat (List.set (GOp.enc (GOp.bare o)) (0 + (r42).toNat * 1) u46)) (by show List.length (List.take r42.toNat (List.set (GOp.enc (GOp.bare o)) (0 + (r42).toNat * 1) u46)) ≤ _; first | omega | (simp; omega)) w64) (k := fun e_ w67 h_ => ⟨.tuple #[GOp.val (opVal (opOf (List.take r42.toNat (List.set (GOp.enc (GOp.bare o)) (0 + (r42).toNat * 1) u46)))), .int .i64 (opErr (opOf (List.take r42.toNat (List.set (GOp.enc (GOp.bare o)) (0 + (r42).toNat * 1) u46))))], h_.1, ?_⟩)
          have k68 := h_.2; clear h_
          replace hb4 := k68.heap hb4 id
          replace hb10 := k68.heap hb10 id
          replace hy50 := hy50.keeps k68 id
          replace hb65 := k68.heap hb65 id
          replace K := K.trans (k68.any _)
          refine WL.op (d := 70) (.tuple #[GOp.val (opVal (opOf (List.take r42.toNat (List.set (GOp.enc (GOp.bare o)) (0 + (r42).toNat * 1) u46)))), .int .i64 (opErr (opOf (List.take r42.toNat (List.set (GOp.enc (GOp.bare o)) (0 + (r42).toNat * 1) u46))))]) (k := ?_)
          refine WL.op (d := 73) (GOp.val (opVal (opOf (List.take r42.toNat (List.set (GOp.enc (GOp.bare o)) (0 + (r42).toNat * 1) u46))))) (k := ?_)
          refine WL.op (d := 74) (.int .i64 (opErr (opOf (List.take r42.toNat (List.set (GOp.enc (GOp.bare o)) (0 + (r42).toNat * 1) u46))))) (k := ?_)
          refine WL.new (d := 14) (T := 46) #[.int .i64 0, .int .i64 0, .int .i64 0, .int .i64 0, .int .i64 0, .int .i64 0, .bool false, .int .i64 0, .int .i64 0, .int .i64 0] (k := fun b69 w70 g71 hb72 k73 => ?_)
          have z74 := Nat.le_trans K.size g71
          have n75 : b1 ≠ b69 := Nat.ne_of_lt (Nat.lt_of_lt_of_le (lt_of_heap hb4) g71)
          have n76 : b7 ≠ b69 := Nat.ne_of_lt (Nat.lt_of_lt_of_le (lt_of_heap hb10) g71)
          have n77 : b27 ≠ b69 := Nat.ne_of_lt (Nat.lt_of_lt_of_le hy50.lt g71)
          have n78 : b55 ≠ b69 := Nat.ne_of_lt (Nat.lt_of_lt_of_le (lt_of_heap hb65) g71)
          replace hb4 := k73.heap hb4 id
          replace hb10 := k73.heap hb10 id
          replace hy50 := hy50.keeps k73 id
          replace hb65 := k73.heap hb65 id
          replace K := K.trans (k73.any _)
          refine WL.store (v := GOp.val (opVal (opOf (List.take r42.toNat (List.set (GOp.enc (GOp.bare o)) (0 + (r42).toNat * 1) u46))))) (i := 0) (cs' := (Value.cells (GOp.val (opVal (opOf (List.take r42.toNat (List.set (GOp.enc (GOp.bare o)) (0 + (r42).toNat * 1) u46))))))) hb72 (k := fun w79 hb80 k81 => ?_)
          replace hb4 := k81.heap hb4 n75
          replace hb10 := k81.heap hb10 n76
          replace hy50 := hy50.keeps k81 n77
          replace hb65 := k81.heap hb65 n78
          replace K := K.trans' k81 (fun i hi e => absurd (e ▸ hi) (Nat.not_lt.2 z74))
          clear hb72
          refine WL.op (d := 15) (.int .i64 (opErr (opOf (List.take r42.toNat (List.set (GOp.enc (GOp.bare o)) (0 + (r42).toNat * 1) u46))))) (k := ?_)
          refine WL.nil ?_
          refine WX.seqN ?_
          refine WC.seq ?_
          refine WC.region ?_
          refine WL.op (d := 75) (.bool true) (k := ?_)
          refine WL.op (d := 76) (.bool true) (k := ?_)
          refine WL.load (v := GOp.val (opVal (opOf (List.take r42.toNat (List.set (GOp.enc (GOp.bare o)) (0 + (r42).toNat * 1) u46))))) (ldN (T := 46) (i := 0) (m := 10) (l := (Value.cells (GOp.val (opVal (opOf (List.take r42.toNat (List.set (GOp.enc (GOp.bare o)) (0 + (r42).toNat * 1) u46)))))).toList) hb65) (k := ?_)
          refine WL.load (v := GOp.val (opVal (opOf (List.take r42.toNat (List.set (GOp.enc (GOp.bare o)) (0 + (r42).toNat * 1) u46))))) (ldN (T := 46) (i := 0) (m := 10) (l := (Value.cells (GOp.val (opVal (opOf (List.take r42.toNat (List.set (GOp.enc (GOp.bare o)) (0 + (r42).toNat * 1) u46)))))).toList) hb80) (k := ?_)
          refine WL.bin (d := 79) (v := .bool true) (eqOpS (opVal (opOf (List.take r42.toNat (List.set (GOp.enc (GOp.bare o)) (0 + (r42).toNat * 1) u46)))) _) (k := ?_)
          refine WL.op (d := 80) (.bool true) (k := ?_)
          refine WL.op (d := 81) (.bool true) (k := ?_)
          refine WL.op (d := 82) (.int .i64 (opErr (opOf (List.take r42.toNat (List.set (GOp.enc (GOp.bare o)) (0 + (r42).toNat * 1) u46))))) (k := ?_)
          refine WL.op (d := 83) (.int .i64 (opErr (opOf (List.take r42.toNat (List.set (GOp.enc (GOp.bare o)) (0 + (r42).toNat * 1) u46))))) (k := ?_)
          refine WL.opE (d := 84) (.bool ((opErr (opOf (List.take r42.toNat (List.set (GOp.enc (GOp.bare o)) (0 + (r42).toNat * 1) u46)))) == (opErr (opOf (List.take r42.toNat (List.set (GOp.enc (GOp.bare o)) (0 + (r42).toNat * 1) u46)))))) (v := .bool true) (congrArg Value.bool (beq_self_eq_true _)) (k := ?_)
          refine WL.op (d := 85) (.bool true) (k := ?_)
          refine WL.op (d := 6) (.bool true) (k := ?_)
          refine WL.nil ?_
          refine WX.seqN ?_
          refine WC.ret ?_
          refine WX.ret (rs := [.tmp 6]) [.bool true] (.bool true) ⟨(by kernel_rfl), trivial⟩ (k := ?_)
          exact ⟨rfl, K⟩
        · have ph52 := ne_of_beq_false h52
          refine WC.skip ?_
          refine WX.seqN ?_
          refine WC.seq ?_
          refine WC.region ?_
          refine WL.op (d := 66) (.string ⟨(List.set (GOp.enc (GOp.bare o)) (0 + (r42).toNat * 1) u46).toArray⟩) (k := ?_)
          refine WL.callG (d := 67) (f := 47) (args := #[.string ⟨(List.set (GOp.enc (GOp.bare o)) (0 + (r42).toNat * 1) u46).toArray⟩]) (pRead_v (List.set (GOp.enc (GOp.bare o)) (0 + (r42).toNat * 1) u46) (by show List.length (List.set (GOp.enc (GOp.bare o)) (0 + (r42).toNat * 1) u46) ≤ _; first | omega | (simp; omega)) w48) (k := fun e_ w82 h_ => ⟨.tuple #[GOp.val (opVal (opOf (List.set (GOp.enc (GOp.bare o)) (0 + (r42).toNat * 1) u46))), .int .i64 (opErr (opOf (List.set (GOp.enc (GOp.bare o)) (0 + (r42).toNat * 1) u46)))], h_.1, ?_⟩)
          have k83 := h_.2; clear h_
          replace hb4 := k83.heap hb4 id
          replace hb10 := k83.heap hb10 id
          replace hy50 := hy50.keeps k83 id
          replace K := K.trans (k83.any _)
          refine WL.op (d := 65) (.tuple #[GOp.val (opVal (opOf (List.set (GOp.enc (GOp.bare o)) (0 + (r42).toNat * 1) u46))), .int .i64 (opErr (opOf (List.set (GOp.enc (GOp.bare o)) (0 + (r42).toNat * 1) u46)))]) (k := ?_)
          refine WL.op (d := 68) (GOp.val (opVal (opOf (List.set (GOp.enc (GOp.bare o)) (0 + (r42).toNat * 1) u46)))) (k := ?_)
          refine WL.op (d := 69) (.int .i64 (opErr (opOf (List.set (GOp.enc (GOp.bare o)) (0 + (r42).toNat * 1) u46)))) (k := ?_)
          refine WL.new (d := 12) (T := 46) #[.int .i64 0, .int .i64 0, .int .i64 0, .int .i64 0, .int .i64 0, .int .i64 0, .bool false, .int .i64 0, .int .i64 0, .int .i64 0] (k := fun b84 w85 g86 hb87 k88 => ?_)
          have z89 := Nat.le_trans K.size g86
          have n90 : b1 ≠ b84 := Nat.ne_of_lt (Nat.lt_of_lt_of_le (lt_of_heap hb4) g86)
          have n91 : b7 ≠ b84 := Nat.ne_of_lt (Nat.lt_of_lt_of_le (lt_of_heap hb10) g86)
          have n92 : b27 ≠ b84 := Nat.ne_of_lt (Nat.lt_of_lt_of_le hy50.lt g86)
          replace hb4 := k88.heap hb4 id
          replace hb10 := k88.heap hb10 id
          replace hy50 := hy50.keeps k88 id
          replace K := K.trans (k88.any _)
          refine WL.store (v := GOp.val (opVal (opOf (List.set (GOp.enc (GOp.bare o)) (0 + (r42).toNat * 1) u46)))) (i := 0) (cs' := (Value.cells (GOp.val (opVal (opOf (List.set (GOp.enc (GOp.bare o)) (0 + (r42).toNat * 1) u46)))))) hb87 (k := fun w93 hb94 k95 => ?_)
          replace hb4 := k95.heap hb4 n90
          replace hb10 := k95.heap hb10 n91
          replace hy50 := hy50.keeps k95 n92
          replace K := K.trans' k95 (fun i hi e => absurd (e ▸ hi) (Nat.not_lt.2 z89))
          clear hb87
          refine WL.op (d := 13) (.int .i64 (opErr (opOf (List.set (GOp.enc (GOp.bare o)) (0 + (r42).toNat * 1) u46)))) (k := ?_)
          refine WL.nil ?_
          refine WX.seqN ?_
          refine WC.seq ?_
          refine WC.region ?_
          refine WL.op (d := 71) (.string ⟨(List.set (GOp.enc (GOp.bare o)) (0 + (r42).toNat * 1) u46).toArray⟩) (k := ?_)
          refine WL.callG (d := 72) (f := 48) (args := #[.string ⟨(List.set (GOp.enc (GOp.bare o)) (0 + (r42).toNat * 1) u46).toArray⟩]) (u13Read_v (List.set (GOp.enc (GOp.bare o)) (0 + (r42).toNat * 1) u46) (by show List.length (List.set (GOp.enc (GOp.bare o)) (0 + (r42).toNat * 1) u46) ≤ _; first | omega | (simp; omega)) w93) (k := fun e_ w96 h_ => ⟨.tuple #[GOp.val (opVal (opOf (List.set (GOp.enc (GOp.bare o)) (0 + (r42).toNat * 1) u46))), .int .i64 (opErr (opOf (List.set (GOp.enc (GOp.bare o)) (0 + (r42).toNat * 1) u46)))], h_.1, ?_⟩)
          have k97 := h_.2; clear h_
          replace hb4 := k97.heap hb4 id
          replace hb10 := k97.heap hb10 id
          replace hy50 := hy50.keeps k97 id
          replace hb94 := k97.heap hb94 id
          replace K := K.trans (k97.any _)
          refine WL.op (d := 70) (.tuple #[GOp.val (opVal (opOf (List.set (GOp.enc (GOp.bare o)) (0 + (r42).toNat * 1) u46))), .int .i64 (opErr (opOf (List.set (GOp.enc (GOp.bare o)) (0 + (r42).toNat * 1) u46)))]) (k := ?_)
          refine WL.op (d := 73) (GOp.val (opVal (opOf (List.set (GOp.enc (GOp.bare o)) (0 + (r42).toNat * 1) u46)))) (k := ?_)
          refine WL.op (d := 74) (.int .i64 (opErr (opOf (List.set (GOp.enc (GOp.bare o)) (0 + (r42).toNat * 1) u46)))) (k := ?_)
          refine WL.new (d := 14) (T := 46) #[.int .i64 0, .int .i64 0, .int .i64 0, .int .i64 0, .int .i64 0, .int .i64 0, .bool false, .int .i64 0, .int .i64 0, .int .i64 0] (k := fun b98 w99 g100 hb101 k102 => ?_)
          have z103 := Nat.le_trans K.size g100
          have n104 : b1 ≠ b98 := Nat.ne_of_lt (Nat.lt_of_lt_of_le (lt_of_heap hb4) g100)
          have n105 : b7 ≠ b98 := Nat.ne_of_lt (Nat.lt_of_lt_of_le (lt_of_heap hb10) g100)
          have n106 : b27 ≠ b98 := Nat.ne_of_lt (Nat.lt_of_lt_of_le hy50.lt g100)
          have n107 : b84 ≠ b98 := Nat.ne_of_lt (Nat.lt_of_lt_of_le (lt_of_heap hb94) g100)
          replace hb4 := k102.heap hb4 id
          replace hb10 := k102.heap hb10 id
          replace hy50 := hy50.keeps k102 id
          replace hb94 := k102.heap hb94 id
          replace K := K.trans (k102.any _)
          refine WL.store (v := GOp.val (opVal (opOf (List.set (GOp.enc (GOp.bare o)) (0 + (r42).toNat * 1) u46)))) (i := 0) (cs' := (Value.cells (GOp.val (opVal (opOf (List.set (GOp.enc (GOp.bare o)) (0 + (r42).toNat * 1) u46)))))) hb101 (k := fun w108 hb109 k110 => ?_)
          replace hb4 := k110.heap hb4 n104
          replace hb10 := k110.heap hb10 n105
          replace hy50 := hy50.keeps k110 n106
          replace hb94 := k110.heap hb94 n107
          replace K := K.trans' k110 (fun i hi e => absurd (e ▸ hi) (Nat.not_lt.2 z103))
          clear hb101
          refine WL.op (d := 15) (.int .i64 (opErr (opOf (List.set (GOp.enc (GOp.bare o)) (0 + (r42).toNat * 1) u46)))) (k := ?_)
          refine WL.nil ?_
          refine WX.seqN ?_
          refine WC.seq ?_
          refine WC.region ?_
          refine WL.op (d := 75) (.bool true) (k := ?_)
          refine WL.op (d := 76) (.bool true) (k := ?_)
          refine WL.load (v := GOp.val (opVal (opOf (List.set (GOp.enc (GOp.bare o)) (0 + (r42).toNat * 1) u46)))) (ldN (T := 46) (i := 0) (m := 10) (l := (Value.cells (GOp.val (opVal (opOf (List.set (GOp.enc (GOp.bare o)) (0 + (r42).toNat * 1) u46))))).toList) hb94) (k := ?_)
          refine WL.load (v := GOp.val (opVal (opOf (List.set (GOp.enc (GOp.bare o)) (0 + (r42).toNat * 1) u46)))) (ldN (T := 46) (i := 0) (m := 10) (l := (Value.cells (GOp.val (opVal (opOf (List.set (GOp.enc (GOp.bare o)) (0 + (r42).toNat * 1) u46))))).toList) hb109) (k := ?_)
          refine WL.bin (d := 79) (v := .bool true) (eqOpS (opVal (opOf (List.set (GOp.enc (GOp.bare o)) (0 + (r42).toNat * 1) u46))) _) (k := ?_)
          refine WL.op (d := 80) (.bool true) (k := ?_)
          refine WL.op (d := 81) (.bool true) (k := ?_)
          refine WL.op (d := 82) (.int .i64 (opErr (opOf (List.set (GOp.enc (GOp.bare o)) (0 + (r42).toNat * 1) u46)))) (k := ?_)
          refine WL.op (d := 83) (.int .i64 (opErr (opOf (List.set (GOp.enc (GOp.bare o)) (0 + (r42).toNat * 1) u46)))) (k := ?_)
          refine WL.opE (d := 84) (.bool ((opErr (opOf (List.set (GOp.enc (GOp.bare o)) (0 + (r42).toNat * 1) u46))) == (opErr (opOf (List.set (GOp.enc (GOp.bare o)) (0 + (r42).toNat * 1) u46))))) (v := .bool true) (congrArg Value.bool (beq_self_eq_true _)) (k := ?_)
          refine WL.op (d := 85) (.bool true) (k := ?_)
          refine WL.op (d := 6) (.bool true) (k := ?_)
          refine WL.nil ?_
          refine WX.seqN ?_
          refine WC.ret ?_
          refine WX.ret (rs := [.tmp 6]) [.bool true] (.bool true) ⟨(by kernel_rfl), trivial⟩ (k := ?_)
          exact ⟨rfl, K⟩
      · have ph37 := of_decide_eq_false h37
        refine WC.skip ?_
        refine WX.seqN ?_
        refine WC.seq ?_
        refine WC.region ?_
        refine WL.op (d := 66) (.string ⟨(l17).toArray⟩) (k := ?_)
        refine WL.callG (d := 67) (f := 47) (args := #[.string ⟨(l17).toArray⟩]) (pRead_v l17 (by show List.length l17 ≤ _; first | omega | (simp; omega)) w29) (k := fun e_ w111 h_ => ⟨.tuple #[GOp.val (opVal (opOf l17)), .int .i64 (opErr (opOf l17))], h_.1, ?_⟩)
        have k112 := h_.2; clear h_
        replace hb4 := k112.heap hb4 id
        replace hb10 := k112.heap hb10 id
        replace hy32 := hy32.keeps k112 id
        replace K := K.trans (k112.any _)
        refine WL.op (d := 65) (.tuple #[GOp.val (opVal (opOf l17)), .int .i64 (opErr (opOf l17))]) (k := ?_)
        refine WL.op (d := 68) (GOp.val (opVal (opOf l17))) (k := ?_)
        refine WL.op (d := 69) (.int .i64 (opErr (opOf l17))) (k := ?_)
        refine WL.new (d := 12) (T := 46) #[.int .i64 0, .int .i64 0, .int .i64 0, .int .i64 0, .int .i64 0, .int .i64 0, .bool false, .int .i64 0, .int .i64 0, .int .i64 0] (k := fun b113 w114 g115 hb116 k117 => ?_)
        have z118 := Nat.le_trans K.size g115
        have n119 : b1 ≠ b113 := Nat.ne_of_lt (Nat.lt_of_lt_of_le (lt_of_heap hb4) g115)
        have n120 : b7 ≠ b113 := Nat.ne_of_lt (Nat.lt_of_lt_of_le (lt_of_heap hb10) g115)
        have n121 : b27 ≠ b113 := Nat.ne_of_lt (Nat.lt_of_lt_of_le hy32.lt g115)
        replace hb4 := k117.heap hb4 id
        replace hb10 := k117.heap hb10 id
        replace hy32 := hy32.keeps k117 id
        replace K := K.trans (k117.any _)
        refine WL.store (v := GOp.val (opVal (opOf l17))) (i := 0) (cs' := (Value.cells (GOp.val (opVal (opOf l17))))) hb116 (k := fun w122 hb123 k124 => ?_)
        replace hb4 := k124.heap hb4 n119
        replace hb10 := k124.heap hb10 n120
        replace hy32 := hy32.keeps k124 n121
        replace K := K.trans' k124 (fun i hi e => absurd (e ▸ hi) (Nat.not_lt.2 z118))
        clear hb116
        refine WL.op (d := 13) (.int .i64 (opErr (opOf l17))) (k := ?_)
        refine WL.nil ?_
        refine WX.seqN ?_
        refine WC.seq ?_
        refine WC.region ?_
        refine WL.op (d := 71) (.string ⟨(l17).toArray⟩) (k := ?_)
        refine WL.callG (d := 72) (f := 48) (args := #[.string ⟨(l17).toArray⟩]) (u13Read_v l17 (by show List.length l17 ≤ _; first | omega | (simp; omega)) w122) (k := fun e_ w125 h_ => ⟨.tuple #[GOp.val (opVal (opOf l17)), .int .i64 (opErr (opOf l17))], h_.1, ?_⟩)
        have k126 := h_.2; clear h_
        replace hb4 := k126.heap hb4 id
        replace hb10 := k126.heap hb10 id
        replace hy32 := hy32.keeps k126 id
        replace hb123 := k126.heap hb123 id
        replace K := K.trans (k126.any _)
        refine WL.op (d := 70) (.tuple #[GOp.val (opVal (opOf l17)), .int .i64 (opErr (opOf l17))]) (k := ?_)
        refine WL.op (d := 73) (GOp.val (opVal (opOf l17))) (k := ?_)
        refine WL.op (d := 74) (.int .i64 (opErr (opOf l17))) (k := ?_)
        refine WL.new (d := 14) (T := 46) #[.int .i64 0, .int .i64 0, .int .i64 0, .int .i64 0, .int .i64 0, .int .i64 0, .bool false, .int .i64 0, .int .i64 0, .int .i64 0] (k := fun b127 w128 g129 hb130 k131 => ?_)
        have z132 := Nat.le_trans K.size g129
        have n133 : b1 ≠ b127 := Nat.ne_of_lt (Nat.lt_of_lt_of_le (lt_of_heap hb4) g129)
        have n134 : b7 ≠ b127 := Nat.ne_of_lt (Nat.lt_of_lt_of_le (lt_of_heap hb10) g129)
        have n135 : b27 ≠ b127 := Nat.ne_of_lt (Nat.lt_of_lt_of_le hy32.lt g129)
        have n136 : b113 ≠ b127 := Nat.ne_of_lt (Nat.lt_of_lt_of_le (lt_of_heap hb123) g129)
        replace hb4 := k131.heap hb4 id
        replace hb10 := k131.heap hb10 id
        replace hy32 := hy32.keeps k131 id
        replace hb123 := k131.heap hb123 id
        replace K := K.trans (k131.any _)
        refine WL.store (v := GOp.val (opVal (opOf l17))) (i := 0) (cs' := (Value.cells (GOp.val (opVal (opOf l17))))) hb130 (k := fun w137 hb138 k139 => ?_)
        replace hb4 := k139.heap hb4 n133
        replace hb10 := k139.heap hb10 n134
        replace hy32 := hy32.keeps k139 n135
        replace hb123 := k139.heap hb123 n136
        replace K := K.trans' k139 (fun i hi e => absurd (e ▸ hi) (Nat.not_lt.2 z132))
        clear hb130
        refine WL.op (d := 15) (.int .i64 (opErr (opOf l17))) (k := ?_)
        refine WL.nil ?_
        refine WX.seqN ?_
        refine WC.seq ?_
        refine WC.region ?_
        refine WL.op (d := 75) (.bool true) (k := ?_)
        refine WL.op (d := 76) (.bool true) (k := ?_)
        refine WL.load (v := GOp.val (opVal (opOf l17))) (ldN (T := 46) (i := 0) (m := 10) (l := (Value.cells (GOp.val (opVal (opOf l17)))).toList) hb123) (k := ?_)
        refine WL.load (v := GOp.val (opVal (opOf l17))) (ldN (T := 46) (i := 0) (m := 10) (l := (Value.cells (GOp.val (opVal (opOf l17)))).toList) hb138) (k := ?_)
        refine WL.bin (d := 79) (v := .bool true) (eqOpS (opVal (opOf l17)) _) (k := ?_)
        refine WL.op (d := 80) (.bool true) (k := ?_)
        refine WL.op (d := 81) (.bool true) (k := ?_)
        refine WL.op (d := 82) (.int .i64 (opErr (opOf l17))) (k := ?_)
        refine WL.op (d := 83) (.int .i64 (opErr (opOf l17))) (k := ?_)
        refine WL.opE (d := 84) (.bool ((opErr (opOf l17)) == (opErr (opOf l17)))) (v := .bool true) (congrArg Value.bool (beq_self_eq_true _)) (k := ?_)
        refine WL.op (d := 85) (.bool true) (k := ?_)
        refine WL.op (d := 6) (.bool true) (k := ?_)
        refine WL.nil ?_
        refine WX.seqN ?_
        refine WC.ret ?_
        refine WX.ret (rs := [.tmp 6]) [.bool true] (.bool true) ⟨(by kernel_rfl), trivial⟩ (k := ?_)
        exact ⟨rfl, K⟩
    · have ph23 := of_decide_eq_false h23
      refine WL.callG (d := 26) (f := 31) (args := #[GOp.val (GOp.bare o)]) (u13Bytes_no (GOp.bare o) ph23 w21) (k := fun e_ w140 h_ => ⟨.tuple #[.string ⟨#[]⟩, .int .i64 1], h_.1, ?_⟩)
      have k141 := h_.2; clear h_
      replace hb4 := k141.heap hb4 id
      replace hb10 := k141.heap hb10 id
      replace K := K.trans (k141.any _)
      refine WL.op (d := 23) (.tuple #[.string ⟨#[]⟩, .int .i64 1]) (k := ?_)
      refine WL.op (d := 27) (.string ⟨#[]⟩) (k := ?_)
      refine WL.op (d := 28) (.int .i64 1) (k := ?_)
      refine WL.op (d := 8) (.string ⟨#[]⟩) (k := ?_)
      refine WL.op (d := 9) (.int .i64 1) (k := ?_)
      refine WL.nil ?_
      refine WX.seqN ?_
      refine WC.seq ?_
      refine WC.region ?_
      refine WL.op (d := 29) (.string ⟨#[]⟩) (k := ?_)
      obtain ⟨b142, c143, w144, g145, hc146, hy147, k148⟩ := run_toBytesB [] w140
      refine WL.conv (d := 30) (vx := .string ⟨#[]⟩) (v := .slice (some ⟨b142, 0, none⟩) 0 c143) hc146 (k := ?_)
      clear hc146
      have z149 := Nat.le_trans K.size g145
      have n150 : b1 ≠ b142 := Nat.ne_of_lt (Nat.lt_of_lt_of_le (lt_of_heap hb4) g145)
      have n151 : b7 ≠ b142 := Nat.ne_of_lt (Nat.lt_of_lt_of_le (lt_of_heap hb10) g145)
      replace hb4 := k148.heap hb4 id
      replace hb10 := k148.heap hb10 id
      replace K := K.trans (k148.any _)
      refine WL.op (d := 10) (.slice (some ⟨b142, 0, none⟩) 0 c143) (k := ?_)
      refine WL.nil ?_
      refine WX.seqN ?_
      refine WC.seq ?_
      refine WC.region ?_
      refine WL.op (d := 31) (.slice (some ⟨b142, 0, none⟩) 0 c143) (k := ?_)
      refine WL.op (d := 32) (.int .i64 0) (k := ?_)
      refine WL.op (d := 33) (.bool false) (k := ?_)
      refine WL.nil ?_
      refine WX.seqN ?_
      refine WC.condF (k := ?_)
      refine WC.skip ?_
      refine WX.seqN ?_
      refine WC.seq ?_
      refine WC.region ?_
      refine WL.op (d := 66) (.string ⟨(l17).toArray⟩) (k := ?_)
      refine WL.callG (d := 67) (f := 47) (args := #[.string ⟨(l17).toArray⟩]) (pRead_v l17 (by show List.length l17 ≤ _; first | omega | (simp; omega)) w144) (k := fun e_ w152 h_ => ⟨.tuple #[GOp.val (opVal (opOf l17)), .int .i64 (opErr (opOf l17))], h_.1, ?_⟩)
      have k153 := h_.2; clear h_
      replace hb4 := k153.heap hb4 id
      replace hb10 := k153.heap hb10 id
      replace hy147 := hy147.keeps k153 id
      replace K := K.trans (k153.any _)
      refine WL.op (d := 65) (.tuple #[GOp.val (opVal (opOf l17)), .int .i64 (opErr (opOf l17))]) (k := ?_)
      refine WL.op (d := 68) (GOp.val (opVal (opOf l17))) (k := ?_)
      refine WL.op (d := 69) (.int .i64 (opErr (opOf l17))) (k := ?_)
      refine WL.new (d := 12) (T := 46) #[.int .i64 0, .int .i64 0, .int .i64 0, .int .i64 0, .int .i64 0, .int .i64 0, .bool false, .int .i64 0, .int .i64 0, .int .i64 0] (k := fun b154 w155 g156 hb157 k158 => ?_)
      have z159 := Nat.le_trans K.size g156
      have n160 : b1 ≠ b154 := Nat.ne_of_lt (Nat.lt_of_lt_of_le (lt_of_heap hb4) g156)
      have n161 : b7 ≠ b154 := Nat.ne_of_lt (Nat.lt_of_lt_of_le (lt_of_heap hb10) g156)
      have n162 : b142 ≠ b154 := Nat.ne_of_lt (Nat.lt_of_lt_of_le hy147.lt g156)
      replace hb4 := k158.heap hb4 id
      replace hb10 := k158.heap hb10 id
      replace hy147 := hy147.keeps k158 id
      replace K := K.trans (k158.any _)
      refine WL.store (v := GOp.val (opVal (opOf l17))) (i := 0) (cs' := (Value.cells (GOp.val (opVal (opOf l17))))) hb157 (k := fun w163 hb164 k165 => ?_)
      replace hb4 := k165.heap hb4 n160
      replace hb10 := k165.heap hb10 n161
      replace hy147 := hy147.keeps k165 n162
      replace K := K.trans' k165 (fun i hi e => absurd (e ▸ hi) (Nat.not_lt.2 z159))
      clear hb157
      refine WL.op (d := 13) (.int .i64 (opErr (opOf l17))) (k := ?_)
      refine WL.nil ?_
      refine WX.seqN ?_
      refine WC.seq ?_
      refine WC.region ?_
      refine WL.op (d := 71) (.string ⟨(l17).toArray⟩) (k := ?_)
      refine WL.callG (d := 72) (f := 48) (args := #[.string ⟨(l17).toArray⟩]) (u13Read_v l17 (by show List.length l17 ≤ _; first | omega | (simp; omega)) w163) (k := fun e_ w166 h_ => ⟨.tuple #[GOp.val (opVal (opOf l17)), .int .i64 (opErr (opOf l17))], h_.1, ?_⟩)
      have k167 := h_.2; clear h_
      replace hb4 := k167.heap hb4 id
      replace hb10 := k167.heap hb10 id
      replace hy147 := hy147.keeps k167 id
      replace hb164 := k167.heap hb164 id
      replace K := K.trans (k167.any _)
      refine WL.op (d := 70) (.tuple #[GOp.val (opVal (opOf l17)), .int .i64 (opErr (opOf l17))]) (k := ?_)
      refine WL.op (d := 73) (GOp.val (opVal (opOf l17))) (k := ?_)
      refine WL.op (d := 74) (.int .i64 (opErr (opOf l17))) (k := ?_)
      refine WL.new (d := 14) (T := 46) #[.int .i64 0, .int .i64 0, .int .i64 0, .int .i64 0, .int .i64 0, .int .i64 0, .bool false, .int .i64 0, .int .i64 0, .int .i64 0] (k := fun b168 w169 g170 hb171 k172 => ?_)
      have z173 := Nat.le_trans K.size g170
      have n174 : b1 ≠ b168 := Nat.ne_of_lt (Nat.lt_of_lt_of_le (lt_of_heap hb4) g170)
      have n175 : b7 ≠ b168 := Nat.ne_of_lt (Nat.lt_of_lt_of_le (lt_of_heap hb10) g170)
      have n176 : b142 ≠ b168 := Nat.ne_of_lt (Nat.lt_of_lt_of_le hy147.lt g170)
      have n177 : b154 ≠ b168 := Nat.ne_of_lt (Nat.lt_of_lt_of_le (lt_of_heap hb164) g170)
      replace hb4 := k172.heap hb4 id
      replace hb10 := k172.heap hb10 id
      replace hy147 := hy147.keeps k172 id
      replace hb164 := k172.heap hb164 id
      replace K := K.trans (k172.any _)
      refine WL.store (v := GOp.val (opVal (opOf l17))) (i := 0) (cs' := (Value.cells (GOp.val (opVal (opOf l17))))) hb171 (k := fun w178 hb179 k180 => ?_)
      replace hb4 := k180.heap hb4 n174
      replace hb10 := k180.heap hb10 n175
      replace hy147 := hy147.keeps k180 n176
      replace hb164 := k180.heap hb164 n177
      replace K := K.trans' k180 (fun i hi e => absurd (e ▸ hi) (Nat.not_lt.2 z173))
      clear hb171
      refine WL.op (d := 15) (.int .i64 (opErr (opOf l17))) (k := ?_)
      refine WL.nil ?_
      refine WX.seqN ?_
      refine WC.seq ?_
      refine WC.region ?_
      refine WL.op (d := 75) (.bool true) (k := ?_)
      refine WL.op (d := 76) (.bool true) (k := ?_)
      refine WL.load (v := GOp.val (opVal (opOf l17))) (ldN (T := 46) (i := 0) (m := 10) (l := (Value.cells (GOp.val (opVal (opOf l17)))).toList) hb164) (k := ?_)
      refine WL.load (v := GOp.val (opVal (opOf l17))) (ldN (T := 46) (i := 0) (m := 10) (l := (Value.cells (GOp.val (opVal (opOf l17)))).toList) hb179) (k := ?_)
      refine WL.bin (d := 79) (v := .bool true) (eqOpS (opVal (opOf l17)) _) (k := ?_)
      refine WL.op (d := 80) (.bool true) (k := ?_)
      refine WL.op (d := 81) (.bool true) (k := ?_)
      refine WL.op (d := 82) (.int .i64 (opErr (opOf l17))) (k := ?_)
      refine WL.op (d := 83) (.int .i64 (opErr (opOf l17))) (k := ?_)
      refine WL.opE (d := 84) (.bool ((opErr (opOf l17)) == (opErr (opOf l17)))) (v := .bool true) (congrArg Value.bool (beq_self_eq_true _)) (k := ?_)
      refine WL.op (d := 85) (.bool true) (k := ?_)
      refine WL.op (d := 6) (.bool true) (k := ?_)
      refine WL.nil ?_
      refine WX.seqN ?_
      refine WC.ret ?_
      refine WX.ret (rs := [.tmp 6]) [.bool true] (.bool true) ⟨(by kernel_rfl), trivial⟩ (k := ?_)
      exact ⟨rfl, K⟩
  · have ph20 := of_bne_false h20
    refine WC.skip ?_
    refine WX.seqN ?_
    refine WC.seq ?_
    refine WC.region ?_
    refine WL.op (d := 66) (.string ⟨(l17).toArray⟩) (k := ?_)
    refine WL.callG (d := 67) (f := 47) (args := #[.string ⟨(l17).toArray⟩]) (pRead_v l17 (by show List.length l17 ≤ _; first | omega | (simp; omega)) w16) (k := fun e_ w181 h_ => ⟨.tuple #[GOp.val (opVal (opOf l17)), .int .i64 (opErr (opOf l17))], h_.1, ?_⟩)
    have k182 := h_.2; clear h_
    replace hb4 := k182.heap hb4 id
    replace hb10 := k182.heap hb10 id
    replace K := K.trans (k182.any _)
    refine WL.op (d := 65) (.tuple #[GOp.val (opVal (opOf l17)), .int .i64 (opErr (opOf l17))]) (k := ?_)
    refine WL.op (d := 68) (GOp.val (opVal (opOf l17))) (k := ?_)
    refine WL.op (d := 69) (.int .i64 (opErr (opOf l17))) (k := ?_)
    refine WL.new (d := 12) (T := 46) #[.int .i64 0, .int .i64 0, .int .i64 0, .int .i64 0, .int .i64 0, .int .i64 0, .bool false, .int .i64 0, .int .i64 0, .int .i64 0] (k := fun b183 w184 g185 hb186 k187 => ?_)
    have z188 := Nat.le_trans K.size g185
    have n189 : b1 ≠ b183 := Nat.ne_of_lt (Nat.lt_of_lt_of_le (lt_of_heap hb4) g185)
    have n190 : b7 ≠ b183 := Nat.ne_of_lt (Nat.lt_of_lt_of_le (lt_of_heap hb10) g185)
    replace hb4 := k187.heap hb4 id
    replace hb10 := k187.heap hb10 id
    replace K := K.trans (k187.any _)
    refine WL.store (v := GOp.val (opVal (opOf l17))) (i := 0) (cs' := (Value.cells (GOp.val (opVal (opOf l17))))) hb186 (k := fun w191 hb192 k193 => ?_)
    replace hb4 := k193.heap hb4 n189
    replace hb10 := k193.heap hb10 n190
    replace K := K.trans' k193 (fun i hi e => absurd (e ▸ hi) (Nat.not_lt.2 z188))
    clear hb186
    refine WL.op (d := 13) (.int .i64 (opErr (opOf l17))) (k := ?_)
    refine WL.nil ?_
    refine WX.seqN ?_
    refine WC.seq ?_
    refine WC.region ?_
    refine WL.op (d := 71) (.string ⟨(l17).toArray⟩) (k := ?_)
    refine WL.callG (d := 72) (f := 48) (args := #[.string ⟨(l17).toArray⟩]) (u13Read_v l17 (by show List.length l17 ≤ _; first | omega | (simp; omega)) w191) (k := fun e_ w194 h_ => ⟨.tuple #[GOp.val (opVal (opOf l17)), .int .i64 (opErr (opOf l17))], h_.1, ?_⟩)
    have k195 := h_.2; clear h_
    replace hb4 := k195.heap hb4 id
    replace hb10 := k195.heap hb10 id
    replace hb192 := k195.heap hb192 id
    replace K := K.trans (k195.any _)
    refine WL.op (d := 70) (.tuple #[GOp.val (opVal (opOf l17)), .int .i64 (opErr (opOf l17))]) (k := ?_)
    refine WL.op (d := 73) (GOp.val (opVal (opOf l17))) (k := ?_)
    refine WL.op (d := 74) (.int .i64 (opErr (opOf l17))) (k := ?_)
    refine WL.new (d := 14) (T := 46) #[.int .i64 0, .int .i64 0, .int .i64 0, .int .i64 0, .int .i64 0, .int .i64 0, .bool false, .int .i64 0, .int .i64 0, .int .i64 0] (k := fun b196 w197 g198 hb199 k200 => ?_)
    have z201 := Nat.le_trans K.size g198
    have n202 : b1 ≠ b196 := Nat.ne_of_lt (Nat.lt_of_lt_of_le (lt_of_heap hb4) g198)
    have n203 : b7 ≠ b196 := Nat.ne_of_lt (Nat.lt_of_lt_of_le (lt_of_heap hb10) g198)
    have n204 : b183 ≠ b196 := Nat.ne_of_lt (Nat.lt_of_lt_of_le (lt_of_heap hb192) g198)
    replace hb4 := k200.heap hb4 id
    replace hb10 := k200.heap hb10 id
    replace hb192 := k200.heap hb192 id
    replace K := K.trans (k200.any _)
    refine WL.store (v := GOp.val (opVal (opOf l17))) (i := 0) (cs' := (Value.cells (GOp.val (opVal (opOf l17))))) hb199 (k := fun w205 hb206 k207 => ?_)
    replace hb4 := k207.heap hb4 n202
    replace hb10 := k207.heap hb10 n203
    replace hb192 := k207.heap hb192 n204
    replace K := K.trans' k207 (fun i hi e => absurd (e ▸ hi) (Nat.not_lt.2 z201))
    clear hb199
    refine WL.op (d := 15) (.int .i64 (opErr (opOf l17))) (k := ?_)
    refine WL.nil ?_
    refine WX.seqN ?_
    refine WC.seq ?_
    refine WC.region ?_
    refine WL.op (d := 75) (.bool true) (k := ?_)
    refine WL.op (d := 76) (.bool true) (k := ?_)
    refine WL.load (v := GOp.val (opVal (opOf l17))) (ldN (T := 46) (i := 0) (m := 10) (l := (Value.cells (GOp.val (opVal (opOf l17)))).toList) hb192) (k := ?_)
    refine WL.load (v := GOp.val (opVal (opOf l17))) (ldN (T := 46) (i := 0) (m := 10) (l := (Value.cells (GOp.val (opVal (opOf l17)))).toList) hb206) (k := ?_)
    refine WL.bin (d := 79) (v := .bool true) (eqOpS (opVal (opOf l17)) _) (k := ?_)
    refine WL.op (d := 80) (.bool true) (k := ?_)
    refine WL.op (d := 81) (.bool true) (k := ?_)
    refine WL.op (d := 82) (.int .i64 (opErr (opOf l17))) (k := ?_)
    refine WL.op (d := 83) (.int .i64 (opErr (opOf l17))) (k := ?_)
    refine WL.opE (d := 84) (.bool ((opErr (opOf l17)) == (opErr (opOf l17)))) (v := .bool true) (congrArg Value.bool (beq_self_eq_true _)) (k := ?_)
    refine WL.op (d := 85) (.bool true) (k := ?_)
    refine WL.op (d := 6) (.bool true) (k := ?_)
    refine WL.nil ?_
    refine WX.seqN ?_
    refine WC.ret ?_
    refine WX.ret (rs := [.tmp 6]) [.bool true] (.bool true) ⟨(by kernel_rfl), trivial⟩ (k := ?_)
    exact ⟨rfl, K⟩

end Go.Proofs.Ytpkcohhfkeinmaa
