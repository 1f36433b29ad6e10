/- TableBack. -/
import Derived.Test.YtpkcohhfkeinmaaStR
import Derived.Test.YtpkcohhfkeinmaaSt1e
namespace Go.Proofs.Ytpkcohhfkeinmaa
open Go.RowKit
set_option linter.unusedVariables false
set_option linter.unusedSimpArgs false

theorem tSame_r {A B : Option Addr} {cp cq : Nat} {xs : List GRow} {ma : Int} {w : World} (hA : SlAt rowC 6 53 A xs w) (hB : SlAt rowC 6 53 B xs w) (hn : xs.length ≤ 1000000000) : Calls Try.prog 21 #[.agg #[.slice A xs.length cp, .int .i64 ma], .agg #[.slice B xs.length cq, .int .i64 ma]] w fun e w' => e = .returned (.bool true) ∧ Adds w w' := by
  have h := tSame_c (cp := cp) (cq := cq) (ma := ma) (mb := ma) hA hB hn hn
  simpa using h
theorem tBytes_o {A : Option Addr} {cp : Nat} {t : GTable} {w : World} (hA : SlAt rowC 6 53 A t.rows w) (hok : t.ok) : Calls Try.prog 34 #[.agg #[.slice A t.rows.length cp, .int .i64 t.mode]] w fun e w' => e = .returned (.tuple #[.string ⟨t.enc.toArray⟩, .int .i64 0]) ∧ Adds w w' := by
  have h := tBytes_c (cp := cp) (md := t.mode) hA (Nat.le_trans hok.2.1 (by decide))
  rw [show bytesT ⟨t.rows, t.mode⟩ = t.enc from bytesT_ok (tok_eqt hok), show bytesE ⟨t.rows, t.mode⟩ = 0 from if_pos (tok_eqt hok)] at h
  exact h
theorem enc_len900 {t : GTable} (hok : t.ok) : t.enc.length ≤ 900 := by
  have := bytesT_len t
  rwa [bytesT_ok (tok_eqt hok)] at this
theorem tRead_e {t : GTable} (hok : t.ok) (w : World) : Calls Try.prog 25 #[.string ⟨t.enc.toArray⟩] w (TabRes (t, 0) w) := by
  have h := tRead_c t.enc (by have := enc_len900 hok; omega) w
  rwa [read_fwd hok] at h
theorem tApply_b {A : Option Addr} {cp : Nat} {t y : GTable} {x : Int} {w : World} (hA : SlAt rowC 6 53 A y.rows w) (hc : y.rows.length ≤ cp) (hl : y.rows.length ≤ 100000) (h : applyT y ⟨2, ⟨0, 0, 0, 0, 0⟩, false, x, 0, 0⟩ = (t, 0)) : Calls Try.prog 30 #[.agg #[.slice A y.rows.length cp, .int .i64 y.mode], GOp.val ⟨2, ⟨0, 0, 0, 0, 0⟩, false, x, 0, 0⟩] w (TabRes (t, 0) w) := by
  have h' := tApply_c hA hc hl y.mode ⟨2, ⟨0, 0, 0, 0, 0⟩, false, x, 0, 0⟩
  rw [show applyT ⟨y.rows, y.mode⟩ ⟨2, ⟨0, 0, 0, 0, 0⟩, false, x, 0, 0⟩ = (t, 0) from h] at h'
  exact h'

set_option maxRecDepth 100000 in
set_option maxHeartbeats 4000000 in
theorem tableBack_any {L : Option Addr} {lc : Nat} {l : List GOp} {w : World} (hL : SlAt opC 10 46 L l w) (hl : l.length ≤ 9223372036854775807) (o : GOp) : Calls Try.prog 8 #[.slice L l.length lc, o.val] w fun e w' => e = .returned (.bool true) ∧ Adds w w' := by
  have K : Keeps (fun _ => False) w w := Keeps.refl _ w
  refine Calls.start Try.func8 rfl (by kernel_rfl) ?_
  refine WC.seq ?_
  refine WC.region ?_
  refine WL.new (d := 3) (T := 46) (Value.cells (GOp.val o)) (k := fun b1 w2 g3 hb4 k5 => ?_)
  have z6 := Nat.le_trans K.size g3
  replace K := K.trans (k5.any _)
  refine WL.op (d := 4) (.bool false) (k := ?_)
  refine WL.nil ?_
  refine WX.seqN ?_
  refine WC.seq ?_
  refine WC.region ?_
  refine WL.callG (d := 18) (f := 16) (args := #[]) (l14awake_c w2) (k := fun e_ w7 h_ => ⟨.bool true, h_.1, ?_⟩)
  have k8 := h_.2; clear h_
  replace hb4 := k8.heap hb4 id
  replace K := K.trans (k8.any _)
  refine WL.op (d := 5) (.bool true) (k := ?_)
  refine WL.nil ?_
  refine WX.seqN ?_
  refine WC.seq ?_
  refine WC.region ?_
  refine WL.op (d := 19) (.slice L l.length lc) (k := ?_)
  refine WL.callG (d := 20) (f := 18) (args := #[.slice L l.length lc]) (l14made_c (lc := lc) (hL.adds K) (by omega)) (k := fun e_ w9 h_ => ?_)
  obtain ⟨A10, c11, rfl, ho12, k13, ol14⟩ := h_
  refine ⟨_, rfl, ?_⟩
  have ol15 := fun i h => Nat.le_trans K.size (ol14 i h)
  replace hb4 := k13.heap hb4 id
  replace K := K.trans (k13.any _)
  clear ol14
  have ml16 := madeT_len l
  refine WL.new (d := 6) (T := 24) #[.slice none 0 0, .int .i64 0] (k := fun b17 w18 g19 hb20 k21 => ?_)
  have z22 := Nat.le_trans K.size g19
  have n23 : b1 ≠ b17 := Nat.ne_of_lt (Nat.lt_of_lt_of_le (lt_of_heap hb4) g19)
  have n24 := OwAt.off_new ho12 g19
  replace hb4 := k21.heap hb4 id
  replace ho12 := ho12.adds k21
  replace K := K.trans (k21.any _)
  refine WL.store (v := .agg #[.slice A10 (((madeT l).rows).length) c11, .int .i64 ((madeT l).mode)]) (i := 0) (cs' := #[.slice A10 (((madeT l).rows).length) c11, .int .i64 ((madeT l).mode)]) hb20 (k := fun w25 hb26 k27 => ?_)
  replace hb4 := k27.heap hb4 n23
  replace ho12 := ho12.keeps k27 (fun i hi e => (n24) (e ▸ hi))
  replace K := K.trans' k27 (fun i hi e => absurd (e ▸ hi) (Nat.not_lt.2 z22))
  clear hb20
  refine WL.nil ?_
  refine WX.seqN ?_
  refine WC.seq ?_
  refine WC.region ?_
  refine WL.load (v := .agg #[.slice A10 (((madeT l).rows).length) c11, .int .i64 ((madeT l).mode)]) (ldN (T := 24) (i := 0) (m := 2) (l := [.slice A10 (((madeT l).rows).length) c11, .int .i64 ((madeT l).mode)]) hb26) (k := ?_)
  refine WL.callG (d := 23) (f := 34) (args := #[.agg #[.slice A10 (((madeT l).rows).length) c11, .int .i64 ((madeT l).mode)]]) (tBytes_o (t := madeT l) (cp := c11) (ho12.sl ekRow) (madeT_ok l)) (k := fun e_ w28 h_ => ⟨.tuple #[.string ⟨(GTable.enc (madeT l)).toArray⟩, .int .i64 0], h_.1, ?_⟩)
  have k29 := h_.2; clear h_
  replace hb4 := k29.heap hb4 id
  replace ho12 := ho12.adds k29
  replace hb26 := k29.heap hb26 id
  replace K := K.trans (k29.any _)
  refine WL.op (d := 21) (.tuple #[.string ⟨(GTable.enc (madeT l)).toArray⟩, .int .i64 0]) (k := ?_)
  refine WL.op (d := 24) (.string ⟨(GTable.enc (madeT l)).toArray⟩) (k := ?_)
  refine WL.op (d := 25) (.int .i64 0) (k := ?_)
  refine WL.op (d := 7) (.string ⟨(GTable.enc (madeT l)).toArray⟩) (k := ?_)
  refine WL.op (d := 8) (.int .i64 0) (k := ?_)
  refine WL.nil ?_
  refine WX.seqN ?_
  refine WC.seq ?_
  refine WC.region ?_
  refine WL.op (d := 27) (.string ⟨(GTable.enc (madeT l)).toArray⟩) (k := ?_)
  refine WL.callG (d := 28) (f := 25) (args := #[.string ⟨(GTable.enc (madeT l)).toArray⟩]) (tRead_e (madeT_ok l) w28) (k := fun e_ w30 h_ => ?_)
  obtain ⟨A31, c32, rfl, ho33, k34, ol35⟩ := h_
  refine ⟨_, rfl, ?_⟩
  have ol36 := fun i h => Nat.le_trans K.size (ol35 i h)
  replace hb4 := k34.heap hb4 id
  replace ho12 := ho12.adds k34
  replace hb26 := k34.heap hb26 id
  replace K := K.trans (k34.any _)
  clear ol35
  refine WL.op (d := 26) (.tuple #[.agg #[.slice A31 (((madeT l).rows).length) c32, .int .i64 ((madeT l).mode)], .int .i64 0]) (k := ?_)
  refine WL.op (d := 29) (.agg #[.slice A31 (((madeT l).rows).length) c32, .int .i64 ((madeT l).mode)]) (k := ?_)
  refine WL.op (d := 30) (.int .i64 0) (k := ?_)
  refine WL.new (d := 9) (T := 24) #[.slice none 0 0, .int .i64 0] (k := fun b37 w38 g39 hb40 k41 => ?_)
  have z42 := Nat.le_trans K.size g39
  have n43 : b1 ≠ b37 := Nat.ne_of_lt (Nat.lt_of_lt_of_le (lt_of_heap hb4) g39)
  have n44 := OwAt.off_new ho12 g39
  have n45 : b17 ≠ b37 := Nat.ne_of_lt (Nat.lt_of_lt_of_le (lt_of_heap hb26) g39)
  have n46 := OwAt.off_new ho33 g39
  replace hb4 := k41.heap hb4 id
  replace ho12 := ho12.adds k41
  replace hb26 := k41.heap hb26 id
  replace ho33 := ho33.adds k41
  replace K := K.trans (k41.any _)
  refine WL.store (v := .agg #[.slice A31 (((madeT l).rows).length) c32, .int .i64 ((madeT l).mode)]) (i := 0) (cs' := #[.slice A31 (((madeT l).rows).length) c32, .int .i64 ((madeT l).mode)]) hb40 (k := fun w47 hb48 k49 => ?_)
  replace hb4 := k49.heap hb4 n43
  replace ho12 := ho12.keeps k49 (fun i hi e => (n44) (e ▸ hi))
  replace hb26 := k49.heap hb26 n45
  replace ho33 := ho33.keeps k49 (fun i hi e => (n46) (e ▸ hi))
  replace K := K.trans' k49 (fun i hi e => absurd (e ▸ hi) (Nat.not_lt.2 z42))
  clear hb40
  refine WL.op (d := 10) (.int .i64 0) (k := ?_)
  refine WL.nil ?_
  refine WX.seqN ?_
  refine WC.seq ?_
  refine WC.seq ?_
  refine WC.region ?_
  refine WL.op (d := 31) (.int .i64 0) (k := ?_)
  refine WL.op (d := 32) (.bool false) (k := ?_)
  refine WL.op (d := 33) (.bool false) (k := ?_)
  refine WL.op (d := 34) (.int .i64 0) (k := ?_)
  refine WL.op (d := 35) (.bool false) (k := ?_)
  refine WL.op (d := 36) (.bool false) (k := ?_)
  refine WL.op (d := 37) (.bool false) (k := ?_)
  refine WL.load (v := .agg #[.slice A31 (((madeT l).rows).length) c32, .int .i64 ((madeT l).mode)]) (ldN (T := 24) (i := 0) (m := 2) (l := [.slice A31 (((madeT l).rows).length) c32, .int .i64 ((madeT l).mode)]) hb48) (k := ?_)
  refine WL.load (v := .agg #[.slice A10 (((madeT l).rows).length) c11, .int .i64 ((madeT l).mode)]) (ldN (T := 24) (i := 0) (m := 2) (l := [.slice A10 (((madeT l).rows).length) c11, .int .i64 ((madeT l).mode)]) hb26) (k := ?_)
  refine WL.callG (d := 40) (f := 21) (args := #[.agg #[.slice A31 (((madeT l).rows).length) c32, .int .i64 ((madeT l).mode)], .agg #[.slice A10 (((madeT l).rows).length) c11, .int .i64 ((madeT l).mode)]]) (tSame_r (cp := c32) (cq := c11) (ma := (madeT l).mode) (ho33.sl ekRow) (ho12.sl ekRow) (by first | omega | (simp; omega))) (k := fun e_ w50 h_ => ⟨.bool true, h_.1, ?_⟩)
  have k51 := h_.2; clear h_
  replace hb4 := k51.heap hb4 id
  replace ho12 := ho12.adds k51
  replace hb26 := k51.heap hb26 id
  replace ho33 := ho33.adds k51
  replace hb48 := k51.heap hb48 id
  replace K := K.trans (k51.any _)
  refine WL.op (d := 41) (.bool false) (k := ?_)
  refine WL.op (d := 42) (.bool false) (k := ?_)
  refine WL.nil ?_
  refine WX.seqN ?_
  refine WC.condF (k := ?_)
  refine WC.skip ?_
  refine WX.seqN ?_
  refine WC.seq ?_
  refine WC.region ?_
  refine WL.load (v := GOp.val o) (ldN (T := 46) (i := 0) (m := 10) (l := (Value.cells (GOp.val o)).toList) hb4) (k := ?_)
  refine WL.callG (d := 44) (f := 28) (args := #[GOp.val o]) (l14near_c o w50) (k := fun e_ w52 h_ => ⟨GOp.val (nearOp o), h_.1, ?_⟩)
  have k53 := h_.2; clear h_
  replace hb4 := k53.heap hb4 id
  replace ho12 := ho12.adds k53
  replace hb26 := k53.heap hb26 id
  replace ho33 := ho33.adds k53
  replace hb48 := k53.heap hb48 id
  replace K := K.trans (k53.any _)
  refine WL.new (d := 11) (T := 46) #[.int .i64 0, .int .i64 0, .int .i64 0, .int .i64 0, .int .i64 0, .int .i64 0, .bool false, .int .i64 0, .int .i64 0, .int .i64 0] (k := fun b54 w55 g56 hb57 k58 => ?_)
  have z59 := Nat.le_trans K.size g56
  have n60 : b1 ≠ b54 := Nat.ne_of_lt (Nat.lt_of_lt_of_le (lt_of_heap hb4) g56)
  have n61 := OwAt.off_new ho12 g56
  have n62 : b17 ≠ b54 := Nat.ne_of_lt (Nat.lt_of_lt_of_le (lt_of_heap hb26) g56)
  have n63 := OwAt.off_new ho33 g56
  have n64 : b37 ≠ b54 := Nat.ne_of_lt (Nat.lt_of_lt_of_le (lt_of_heap hb48) g56)
  replace hb4 := k58.heap hb4 id
  replace ho12 := ho12.adds k58
  replace hb26 := k58.heap hb26 id
  replace ho33 := ho33.adds k58
  replace hb48 := k58.heap hb48 id
  replace K := K.trans (k58.any _)
  refine WL.store (v := GOp.val (nearOp o)) (i := 0) (cs' := (Value.cells (GOp.val (nearOp o)))) hb57 (k := fun w65 hb66 k67 => ?_)
  replace hb4 := k67.heap hb4 n60
  replace ho12 := ho12.keeps k67 (fun i hi e => (n61) (e ▸ hi))
  replace hb26 := k67.heap hb26 n62
  replace ho33 := ho33.keeps k67 (fun i hi e => (n63) (e ▸ hi))
  replace hb48 := k67.heap hb48 n64
  replace K := K.trans' k67 (fun i hi e => absurd (e ▸ hi) (Nat.not_lt.2 z59))
  clear hb57
  refine WL.nil ?_
  refine WX.seqN ?_
  refine WC.seq ?_
  refine WC.seq ?_
  refine WC.region ?_
  refine WL.op (d := 45) (.pointer (some ⟨b54, 0, none⟩)) (k := ?_)
  refine WL.load (v := .int .i64 ((nearOp o).kind)) (ld1 (T := 3) (i := 0) hb66) (k := ?_)
  refine WL.op (d := 47) (.bool (((nearOp o).kind) != 1)) (k := ?_)
  refine WL.nil ?_
  refine WX.seqN ?_
  refine WC.cond (b := ((nearOp o).kind) != 1) (ht := fun h68 => ?_) (hf := fun h68 => ?_)
  · have ph68 := bne_iff_ne.1 h68
    refine WC.seq ?_
    refine WC.region ?_
    refine WL.op (d := 48) (.bool true) (k := ?_)
    refine WL.op (d := 4) (.bool true) (k := ?_)
    refine WL.nil ?_
    refine WX.seqN ?_
    refine WC.ret ?_
    refine WX.seqR ?_
    refine WX.ret (rs := [.tmp 4]) [.bool true] (.bool true) ⟨(by kernel_rfl), trivial⟩ (k := ?_)
    exact ⟨rfl, K⟩
  · have ph68 := of_bne_false h68
    refine WC.skip ?_
    refine WX.seqN ?_
    refine WC.seq ?_
    refine WC.region ?_
    refine WL.load (v := .agg #[.slice A10 (((madeT l).rows).length) c11, .int .i64 ((madeT l).mode)]) (ldN (T := 24) (i := 0) (m := 2) (l := [.slice A10 (((madeT l).rows).length) c11, .int .i64 ((madeT l).mode)]) hb26) (k := ?_)
    refine WL.load (v := GOp.val (nearOp o)) (ldN (T := 46) (i := 0) (m := 10) (l := (Value.cells (GOp.val (nearOp o))).toList) hb66) (k := ?_)
    have oc69 := SlAt.cell ho12
    refine WL.callG (d := 52) (f := 30) (args := #[.agg #[.slice A10 (((madeT l).rows).length) c11, .int .i64 ((madeT l).mode)], GOp.val (nearOp o)]) (tApply_c (cp := c11) (ho12.sl ekRow) (by omega) (by omega) ((madeT l).mode) (nearOp o)) (k := fun e_ w71 h_ => ?_)
    obtain ⟨A72, c73, rfl, ho74, k75, ol76⟩ := h_
    refine ⟨_, rfl, ?_⟩
    have ol77 := fun i h => Nat.le_trans K.size (ol76 i h)
    replace hb4 := k75.heap hb4 id
    replace ho12 := ho12.adds k75
    replace hb26 := k75.heap hb26 id
    replace ho33 := ho33.adds k75
    replace hb48 := k75.heap hb48 id
    replace hb66 := k75.heap hb66 id
    replace K := K.trans (k75.any _)
    clear ol76
    have al78 := applyT_len (madeT l) (nearOp o)
    have ay70 : (applyT (⟨(madeT l).rows, ((madeT l).mode)⟩ : GTable) (nearOp o)).1.rows.length ≤ 16 := applyT_len _ _
    refine WL.op (d := 49) (.tuple #[.agg #[.slice A72 (((applyT (madeT l) (nearOp o)).1.rows).length) c73, .int .i64 ((applyT (madeT l) (nearOp o)).1.mode)], .int .i64 ((applyT (madeT l) (nearOp o)).2)]) (k := ?_)
    refine WL.op (d := 53) (.agg #[.slice A72 (((applyT (madeT l) (nearOp o)).1.rows).length) c73, .int .i64 ((applyT (madeT l) (nearOp o)).1.mode)]) (k := ?_)
    refine WL.op (d := 54) (.int .i64 ((applyT (madeT l) (nearOp o)).2)) (k := ?_)
    refine WL.new (d := 12) (T := 24) #[.slice none 0 0, .int .i64 0] (k := fun b79 w80 g81 hb82 k83 => ?_)
    have z84 := Nat.le_trans K.size g81
    have n85 : b1 ≠ b79 := Nat.ne_of_lt (Nat.lt_of_lt_of_le (lt_of_heap hb4) g81)
    have n86 := OwAt.off_new ho12 g81
    have n87 : b17 ≠ b79 := Nat.ne_of_lt (Nat.lt_of_lt_of_le (lt_of_heap hb26) g81)
    have n88 := OwAt.off_new ho33 g81
    have n89 : b37 ≠ b79 := Nat.ne_of_lt (Nat.lt_of_lt_of_le (lt_of_heap hb48) g81)
    have n90 : b54 ≠ b79 := Nat.ne_of_lt (Nat.lt_of_lt_of_le (lt_of_heap hb66) g81)
    have n91 := OwAt.off_new ho74 g81
    replace hb4 := k83.heap hb4 id
    replace ho12 := ho12.adds k83
    replace hb26 := k83.heap hb26 id
    replace ho33 := ho33.adds k83
    replace hb48 := k83.heap hb48 id
    replace hb66 := k83.heap hb66 id
    replace ho74 := ho74.adds k83
    replace K := K.trans (k83.any _)
    refine WL.store (v := .agg #[.slice A72 (((applyT (madeT l) (nearOp o)).1.rows).length) c73, .int .i64 ((applyT (madeT l) (nearOp o)).1.mode)]) (i := 0) (cs' := #[.slice A72 (((applyT (madeT l) (nearOp o)).1.rows).length) c73, .int .i64 ((applyT (madeT l) (nearOp o)).1.mode)]) hb82 (k := fun w92 hb93 k94 => ?_)
    replace hb4 := k94.heap hb4 n85
    replace ho12 := ho12.keeps k94 (fun i hi e => (n86) (e ▸ hi))
    replace hb26 := k94.heap hb26 n87
    replace ho33 := ho33.keeps k94 (fun i hi e => (n88) (e ▸ hi))
    replace hb48 := k94.heap hb48 n89
    replace hb66 := k94.heap hb66 n90
    replace ho74 := ho74.keeps k94 (fun i hi e => (n91) (e ▸ hi))
    replace K := K.trans' k94 (fun i hi e => absurd (e ▸ hi) (Nat.not_lt.2 z84))
    clear hb82
    refine WL.op (d := 13) (.int .i64 ((applyT (madeT l) (nearOp o)).2)) (k := ?_)
    refine WL.nil ?_
    refine WX.seqN ?_
    refine WC.seq ?_
    refine WC.seq ?_
    refine WC.region ?_
    refine WL.op (d := 55) (.int .i64 ((applyT (madeT l) (nearOp o)).2)) (k := ?_)
    refine WL.op (d := 56) (.bool (((applyT (madeT l) (nearOp o)).2) != 0)) (k := ?_)
    refine WL.nil ?_
    refine WX.seqN ?_
    refine WC.cond (b := ((applyT (madeT l) (nearOp o)).2) != 0) (ht := fun h95 => ?_) (hf := fun h95 => ?_)
    · have ph95 := bne_iff_ne.1 h95
      refine WC.seq ?_
      refine WC.region ?_
      refine WL.op (d := 57) (.bool true) (k := ?_)
      refine WL.op (d := 4) (.bool true) (k := ?_)
      refine WL.nil ?_
      refine WX.seqN ?_
      refine WC.ret ?_
      refine WX.seqR ?_
      refine WX.ret (rs := [.tmp 4]) [.bool true] (.bool true) ⟨(by kernel_rfl), trivial⟩ (k := ?_)
      exact ⟨rfl, K⟩
    · have ph95 := of_bne_false h95
      refine WC.skip ?_
      refine WX.seqN ?_
      refine WC.seq ?_
      have ab_ := admit_back ph68 ph95
      have al_ := (apply_ok ph95).1
      have af_ := ab_.1; have an_ := ab_.2.2
      refine WC.region ?_
      refine WL.load (v := .agg #[.slice A72 (((applyT (madeT l) (nearOp o)).1.rows).length) c73, .int .i64 ((applyT (madeT l) (nearOp o)).1.mode)]) (ldN (T := 24) (i := 0) (m := 2) (l := [.slice A72 (((applyT (madeT l) (nearOp o)).1.rows).length) c73, .int .i64 ((applyT (madeT l) (nearOp o)).1.mode)]) hb93) (k := ?_)
      refine WL.op (d := 60) (.pointer (some ⟨b54, 1, none⟩)) (k := ?_)
      refine WL.op (d := 61) (.pointer (some ⟨b54, 1, none⟩)) (k := ?_)
      refine WL.load (v := .int .i64 ((nearOp o).task.id)) (ld1 (T := 3) (i := 1) hb66) (k := ?_)
      refine WL.callG (d := 63) (f := 35) (args := #[.agg #[.slice A72 (((applyT (madeT l) (nearOp o)).1.rows).length) c73, .int .i64 ((applyT (madeT l) (nearOp o)).1.mode)], .int .i64 ((nearOp o).task.id)]) (tFind_c (cp := c73) (ho74.sl ekRow) (by omega) ((applyT (madeT l) (nearOp o)).1.mode) ((nearOp o).task.id)) (k := fun e_ w96 h_ => ⟨.tuple #[GRow.val (findV ((applyT (madeT l) (nearOp o)).1.rows) ((nearOp o).task.id)), .bool ((findR ((applyT (madeT l) (nearOp o)).1.rows) ((nearOp o).task.id)).isSome)], h_.1, ?_⟩)
      have k97 := h_.2; clear h_
      replace hb4 := k97.heap hb4 id
      replace ho12 := ho12.adds k97
      replace hb26 := k97.heap hb26 id
      replace ho33 := ho33.adds k97
      replace hb48 := k97.heap hb48 id
      replace hb66 := k97.heap hb66 id
      replace ho74 := ho74.adds k97
      replace hb93 := k97.heap hb93 id
      replace K := K.trans (k97.any _)
      refine WL.op (d := 58) (.tuple #[GRow.val (findV ((applyT (madeT l) (nearOp o)).1.rows) ((nearOp o).task.id)), .bool ((findR ((applyT (madeT l) (nearOp o)).1.rows) ((nearOp o).task.id)).isSome)]) (k := ?_)
      refine WL.op (d := 64) (GRow.val (findV ((applyT (madeT l) (nearOp o)).1.rows) ((nearOp o).task.id))) (k := ?_)
      refine WL.op (d := 65) (.bool ((findR ((applyT (madeT l) (nearOp o)).1.rows) ((nearOp o).task.id)).isSome)) (k := ?_)
      refine WL.new (d := 14) (T := 53) #[.int .i64 0, .int .i64 0, .int .i64 0, .int .i64 0, .int .i64 0, .bool false] (k := fun b98 w99 g100 hb101 k102 => ?_)
      have z103 := Nat.le_trans K.size g100
      have n104 : b1 ≠ b98 := Nat.ne_of_lt (Nat.lt_of_lt_of_le (lt_of_heap hb4) g100)
      have n105 := OwAt.off_new ho12 g100
      have n106 : b17 ≠ b98 := Nat.ne_of_lt (Nat.lt_of_lt_of_le (lt_of_heap hb26) g100)
      have n107 := OwAt.off_new ho33 g100
      have n108 : b37 ≠ b98 := Nat.ne_of_lt (Nat.lt_of_lt_of_le (lt_of_heap hb48) g100)
      have n109 : b54 ≠ b98 := Nat.ne_of_lt (Nat.lt_of_lt_of_le (lt_of_heap hb66) g100)
      have n110 := OwAt.off_new ho74 g100
      have n111 : b79 ≠ b98 := Nat.ne_of_lt (Nat.lt_of_lt_of_le (lt_of_heap hb93) g100)
      replace hb4 := k102.heap hb4 id
      replace ho12 := ho12.adds k102
      replace hb26 := k102.heap hb26 id
      replace ho33 := ho33.adds k102
      replace hb48 := k102.heap hb48 id
      replace hb66 := k102.heap hb66 id
      replace ho74 := ho74.adds k102
      replace hb93 := k102.heap hb93 id
      replace K := K.trans (k102.any _)
      refine WL.store (v := GRow.val (findV ((applyT (madeT l) (nearOp o)).1.rows) ((nearOp o).task.id))) (i := 0) (cs' := (Value.cells (GRow.val (findV ((applyT (madeT l) (nearOp o)).1.rows) ((nearOp o).task.id))))) hb101 (k := fun w112 hb113 k114 => ?_)
      replace hb4 := k114.heap hb4 n104
      replace ho12 := ho12.keeps k114 (fun i hi e => (n105) (e ▸ hi))
      replace hb26 := k114.heap hb26 n106
      replace ho33 := ho33.keeps k114 (fun i hi e => (n107) (e ▸ hi))
      replace hb48 := k114.heap hb48 n108
      replace hb66 := k114.heap hb66 n109
      replace ho74 := ho74.keeps k114 (fun i hi e => (n110) (e ▸ hi))
      replace hb93 := k114.heap hb93 n111
      replace K := K.trans' k114 (fun i hi e => absurd (e ▸ hi) (Nat.not_lt.2 z103))
      clear hb101
      refine WL.op (d := 15) (.bool ((findR ((applyT (madeT l) (nearOp o)).1.rows) ((nearOp o).task.id)).isSome)) (k := ?_)
      refine WL.nil ?_
      refine WX.seqN ?_
      refine WC.seq ?_
      refine WC.region ?_
      refine WL.load (v := .agg #[.slice A72 (((applyT (madeT l) (nearOp o)).1.rows).length) c73, .int .i64 ((applyT (madeT l) (nearOp o)).1.mode)]) (ldN (T := 24) (i := 0) (m := 2) (l := [.slice A72 (((applyT (madeT l) (nearOp o)).1.rows).length) c73, .int .i64 ((applyT (madeT l) (nearOp o)).1.mode)]) hb93) (k := ?_)
      refine WL.op (d := 68) (.pointer (some ⟨b54, 1, none⟩)) (k := ?_)
      refine WL.op (d := 69) (.pointer (some ⟨b54, 1, none⟩)) (k := ?_)
      refine WL.load (v := .int .i64 ((nearOp o).task.id)) (ld1 (T := 3) (i := 1) hb66) (k := ?_)
      refine WL.op (d := 71) (.agg #[.int .i64 2, .int .i64 0, .int .i64 0, .int .i64 0, .int .i64 0, .int .i64 0, .bool false, .int .i64 ((nearOp o).task.id), .int .i64 0, .int .i64 0]) (k := ?_)
      have oc115 := SlAt.cell ho74
      refine WL.callG (d := 72) (f := 30) (args := #[.agg #[.slice A72 (((applyT (madeT l) (nearOp o)).1.rows).length) c73, .int .i64 ((applyT (madeT l) (nearOp o)).1.mode)], .agg #[.int .i64 2, .int .i64 0, .int .i64 0, .int .i64 0, .int .i64 0, .int .i64 0, .bool false, .int .i64 ((nearOp o).task.id), .int .i64 0, .int .i64 0]]) (tApply_b (t := madeT l) (y := (applyT (madeT l) (nearOp o)).1) (x := (nearOp o).task.id) (cp := c73) (ho74.sl ekRow) (by omega) (by omega) ab_.2.1) (k := fun e_ w116 h_ => ?_)
      obtain ⟨A117, c118, rfl, ho119, k120, ol121⟩ := h_
      refine ⟨_, rfl, ?_⟩
      have ol122 := fun i h => Nat.le_trans K.size (ol121 i h)
      replace hb4 := k120.heap hb4 id
      replace ho12 := ho12.adds k120
      replace hb26 := k120.heap hb26 id
      replace ho33 := ho33.adds k120
      replace hb48 := k120.heap hb48 id
      replace hb66 := k120.heap hb66 id
      replace ho74 := ho74.adds k120
      replace hb93 := k120.heap hb93 id
      replace hb113 := k120.heap hb113 id
      replace K := K.trans (k120.any _)
      clear ol121
      refine WL.op (d := 66) (.tuple #[.agg #[.slice A117 (((madeT l).rows).length) c118, .int .i64 ((madeT l).mode)], .int .i64 0]) (k := ?_)
      refine WL.op (d := 73) (.agg #[.slice A117 (((madeT l).rows).length) c118, .int .i64 ((madeT l).mode)]) (k := ?_)
      refine WL.op (d := 74) (.int .i64 0) (k := ?_)
      refine WL.new (d := 16) (T := 24) #[.slice none 0 0, .int .i64 0] (k := fun b123 w124 g125 hb126 k127 => ?_)
      have z128 := Nat.le_trans K.size g125
      have n129 : b1 ≠ b123 := Nat.ne_of_lt (Nat.lt_of_lt_of_le (lt_of_heap hb4) g125)
      have n130 := OwAt.off_new ho12 g125
      have n131 : b17 ≠ b123 := Nat.ne_of_lt (Nat.lt_of_lt_of_le (lt_of_heap hb26) g125)
      have n132 := OwAt.off_new ho33 g125
      have n133 : b37 ≠ b123 := Nat.ne_of_lt (Nat.lt_of_lt_of_le (lt_of_heap hb48) g125)
      have n134 : b54 ≠ b123 := Nat.ne_of_lt (Nat.lt_of_lt_of_le (lt_of_heap hb66) g125)
      have n135 := OwAt.off_new ho74 g125
      have n136 : b79 ≠ b123 := Nat.ne_of_lt (Nat.lt_of_lt_of_le (lt_of_heap hb93) g125)
      have n137 : b98 ≠ b123 := Nat.ne_of_lt (Nat.lt_of_lt_of_le (lt_of_heap hb113) g125)
      have n138 := OwAt.off_new ho119 g125
      replace hb4 := k127.heap hb4 id
      replace ho12 := ho12.adds k127
      replace hb26 := k127.heap hb26 id
      replace ho33 := ho33.adds k127
      replace hb48 := k127.heap hb48 id
      replace hb66 := k127.heap hb66 id
      replace ho74 := ho74.adds k127
      replace hb93 := k127.heap hb93 id
      replace hb113 := k127.heap hb113 id
      replace ho119 := ho119.adds k127
      replace K := K.trans (k127.any _)
      refine WL.store (v := .agg #[.slice A117 (((madeT l).rows).length) c118, .int .i64 ((madeT l).mode)]) (i := 0) (cs' := #[.slice A117 (((madeT l).rows).length) c118, .int .i64 ((madeT l).mode)]) hb126 (k := fun w139 hb140 k141 => ?_)
      replace hb4 := k141.heap hb4 n129
      replace ho12 := ho12.keeps k141 (fun i hi e => (n130) (e ▸ hi))
      replace hb26 := k141.heap hb26 n131
      replace ho33 := ho33.keeps k141 (fun i hi e => (n132) (e ▸ hi))
      replace hb48 := k141.heap hb48 n133
      replace hb66 := k141.heap hb66 n134
      replace ho74 := ho74.keeps k141 (fun i hi e => (n135) (e ▸ hi))
      replace hb93 := k141.heap hb93 n136
      replace hb113 := k141.heap hb113 n137
      replace ho119 := ho119.keeps k141 (fun i hi e => (n138) (e ▸ hi))
      replace K := K.trans' k141 (fun i hi e => absurd (e ▸ hi) (Nat.not_lt.2 z128))
      clear hb126
      refine WL.op (d := 17) (.int .i64 0) (k := ?_)
      refine WL.nil ?_
      refine WX.seqN ?_
      refine WC.seq ?_
      have h142 : tokB (⟨(applyT (madeT l) (nearOp o)).1.rows, ((applyT (madeT l) (nearOp o)).1.mode)⟩ : GTable) = true := tok_eqt al_
      refine WC.region ?_
      refine WL.op (d := 75) (.bool true) (k := ?_)
      refine WL.op (d := 76) (.bool true) (k := ?_)
      refine WL.op (d := 77) (.bool ((findR ((applyT (madeT l) (nearOp o)).1.rows) ((nearOp o).task.id)).isSome)) (k := ?_)
      refine WL.op (d := 78) (.bool ((findR ((applyT (madeT l) (nearOp o)).1.rows) ((nearOp o).task.id)).isSome)) (k := ?_)
      refine WL.op (d := 79) (.bool ((findR ((applyT (madeT l) (nearOp o)).1.rows) ((nearOp o).task.id)).isSome)) (k := ?_)
      refine WL.rw (t := 79) (v := .bool true) (congrArg Value.bool af_) (k := ?_)
      refine WL.op (d := 80) (.int .i64 0) (k := ?_)
      refine WL.op (d := 81) (.bool true) (k := ?_)
      refine WL.op (d := 82) (.bool true) (k := ?_)
      refine WL.op (d := 83) (.bool true) (k := ?_)
      refine WL.load (v := .agg #[.slice A117 (((madeT l).rows).length) c118, .int .i64 ((madeT l).mode)]) (ldN (T := 24) (i := 0) (m := 2) (l := [.slice A117 (((madeT l).rows).length) c118, .int .i64 ((madeT l).mode)]) hb140) (k := ?_)
      refine WL.load (v := .agg #[.slice A10 (((madeT l).rows).length) c11, .int .i64 ((madeT l).mode)]) (ldN (T := 24) (i := 0) (m := 2) (l := [.slice A10 (((madeT l).rows).length) c11, .int .i64 ((madeT l).mode)]) hb26) (k := ?_)
      refine WL.callG (d := 86) (f := 21) (args := #[.agg #[.slice A117 (((madeT l).rows).length) c118, .int .i64 ((madeT l).mode)], .agg #[.slice A10 (((madeT l).rows).length) c11, .int .i64 ((madeT l).mode)]]) (tSame_r (cp := c118) (cq := c11) (ma := (madeT l).mode) (ho119.sl ekRow) (ho12.sl ekRow) (by first | omega | (simp; omega))) (k := fun e_ w143 h_ => ⟨.bool true, h_.1, ?_⟩)
      have k144 := h_.2; clear h_
      replace hb4 := k144.heap hb4 id
      replace ho12 := ho12.adds k144
      replace hb26 := k144.heap hb26 id
      replace ho33 := ho33.adds k144
      replace hb48 := k144.heap hb48 id
      replace hb66 := k144.heap hb66 id
      replace ho74 := ho74.adds k144
      replace hb93 := k144.heap hb93 id
      replace hb113 := k144.heap hb113 id
      replace ho119 := ho119.adds k144
      replace hb140 := k144.heap hb140 id
      replace K := K.trans (k144.any _)
      refine WL.op (d := 87) (.bool true) (k := ?_)
      refine WL.op (d := 88) (.bool true) (k := ?_)
      refine WL.load (v := .agg #[.slice A72 (((applyT (madeT l) (nearOp o)).1.rows).length) c73, .int .i64 ((applyT (madeT l) (nearOp o)).1.mode)]) (ldN (T := 24) (i := 0) (m := 2) (l := [.slice A72 (((applyT (madeT l) (nearOp o)).1.rows).length) c73, .int .i64 ((applyT (madeT l) (nearOp o)).1.mode)]) hb93) (k := ?_)
      refine WL.callG (d := 90) (f := 36) (args := #[.agg #[.slice A72 (((applyT (madeT l) (nearOp o)).1.rows).length) c73, .int .i64 ((applyT (madeT l) (nearOp o)).1.mode)]]) (tCheck_c (cp := c73) (ho74.sl ekRow) (by first | omega | simp | (simp; omega))) (k := fun e_ w145 h_ => ⟨.bool (tokB (⟨(applyT (madeT l) (nearOp o)).1.rows, ((applyT (madeT l) (nearOp o)).1.mode)⟩ : GTable)), h_.1, ?_⟩)
      have k146 := h_.2; clear h_
      replace hb4 := k146.heap hb4 id
      replace ho12 := ho12.adds k146
      replace hb26 := k146.heap hb26 id
      replace ho33 := ho33.adds k146
      replace hb48 := k146.heap hb48 id
      replace hb66 := k146.heap hb66 id
      replace ho74 := ho74.adds k146
      replace hb93 := k146.heap hb93 id
      replace hb113 := k146.heap hb113 id
      replace ho119 := ho119.adds k146
      replace hb140 := k146.heap hb140 id
      replace K := K.trans (k146.any _)
      refine WL.op (d := 91) (.bool (tokB (⟨(applyT (madeT l) (nearOp o)).1.rows, ((applyT (madeT l) (nearOp o)).1.mode)⟩ : GTable))) (k := ?_)
      refine WL.op (d := 92) (.bool (tokB (⟨(applyT (madeT l) (nearOp o)).1.rows, ((applyT (madeT l) (nearOp o)).1.mode)⟩ : GTable))) (k := ?_)
      refine WL.rw (t := 92) (v := .bool true) (congrArg Value.bool h142) (k := ?_)
      refine WL.op (d := 93) (.pointer (some ⟨b79, 0, none⟩)) (k := ?_)
      refine WL.load (v := .slice A72 (((applyT (madeT l) (nearOp o)).1.rows).length) c73) (ld1 (T := 22) (i := 0) hb93) (k := ?_)
      refine WL.op (d := 95) (.int .i64 (((applyT (madeT l) (nearOp o)).1.rows).length : Int)) (k := ?_)
      refine WL.op (d := 96) (.pointer (some ⟨b17, 0, none⟩)) (k := ?_)
      refine WL.load (v := .slice A10 (((madeT l).rows).length) c11) (ld1 (T := 22) (i := 0) hb26) (k := ?_)
      refine WL.op (d := 98) (.int .i64 (((madeT l).rows).length : Int)) (k := ?_)
      refine WL.opE (d := 99) (.int .i64 (IntKind.i64.wrap ((((madeT l).rows).length : Int) + 1))) (v := .int .i64 ((((madeT l).rows).length : Int) + 1)) (congrArg (Value.int .i64) (IntWalk.i64_in _ (by omega))) (k := ?_)
      refine WL.op (d := 100) (.bool ((((applyT (madeT l) (nearOp o)).1.rows).length : Int) == ((((madeT l).rows).length : Int) + 1))) (k := ?_)
      refine WL.op (d := 101) (.bool ((((applyT (madeT l) (nearOp o)).1.rows).length : Int) == ((((madeT l).rows).length : Int) + 1))) (k := ?_)
      refine WL.op (d := 4) (.bool ((((applyT (madeT l) (nearOp o)).1.rows).length : Int) == ((((madeT l).rows).length : Int) + 1))) (k := ?_)
      refine WL.nil ?_
      refine WX.seqN ?_
      refine WC.ret ?_
      refine WX.ret (rs := [.tmp 4]) [.bool ((((applyT (madeT l) (nearOp o)).1.rows).length : Int) == ((((madeT l).rows).length : Int) + 1))] (.bool ((((applyT (madeT l) (nearOp o)).1.rows).length : Int) == ((((madeT l).rows).length : Int) + 1))) ⟨(by kernel_rfl), trivial⟩ (k := ?_)
      exact ⟨ret_bool (by rw [an_]; simp), K⟩

end Go.Proofs.Ytpkcohhfkeinmaa
