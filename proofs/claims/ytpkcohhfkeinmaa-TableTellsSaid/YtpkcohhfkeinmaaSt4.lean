/- Tables: the document's Apply. -/
import Derived.Test.YtpkcohhfkeinmaaSt3
import Derived.Test.YtpkcohhfkeinmaaSt1b
namespace Go.Proofs.Ytpkcohhfkeinmaa
open Go.RowKit
set_option linter.unusedVariables false
set_option linter.unusedSimpArgs false

set_option maxRecDepth 100000 in
set_option maxHeartbeats 4000000 in
theorem u14Apply_c {A : Option Addr} {cp : Nat} {rows : List GRow} {w : World} (hA : SlAt rowC 6 53 A rows w) (hc : rows.length ≤ cp) (hn : rows.length ≤ 100000) (md : Int) (o : GOp) : Calls Try.prog 54 #[.agg #[.slice A rows.length cp, .int .i64 md], o.val] w (TabRes (applyT ⟨rows, md⟩ o) w) := by
  have K : Keeps (fun _ => False) w w := Keeps.refl _ w
  have hi := idx_rng rows o.id
  have hpl := pos_le rows o.task.id
  refine Calls.start Try.func54 rfl (by kernel_rfl) ?_
  refine WC.seq ?_
  refine WC.region ?_
  refine WL.new (d := 2) (T := 24) #[.slice A rows.length cp, .int .i64 md] (k := fun b1 w2 g3 hb4 k5 => ?_)
  have z6 := Nat.le_trans K.size g3
  replace K := K.trans (k5.any _)
  refine WL.new (d := 3) (T := 46) (Value.cells (GOp.val o)) (k := fun b7 w8 g9 hb10 k11 => ?_)
  have z12 := Nat.le_trans K.size g9
  have n13 : b1 ≠ b7 := Nat.ne_of_lt (Nat.lt_of_lt_of_le (lt_of_heap hb4) g9)
  replace hb4 := k11.heap hb4 id
  replace K := K.trans (k11.any _)
  refine WL.new (d := 4) (T := 24) #[.slice none 0 0, .int .i64 0] (k := fun b14 w15 g16 hb17 k18 => ?_)
  have z19 := Nat.le_trans K.size g16
  have n20 : b1 ≠ b14 := Nat.ne_of_lt (Nat.lt_of_lt_of_le (lt_of_heap hb4) g16)
  have n21 : b7 ≠ b14 := Nat.ne_of_lt (Nat.lt_of_lt_of_le (lt_of_heap hb10) g16)
  replace hb4 := k18.heap hb4 id
  replace hb10 := k18.heap hb10 id
  replace K := K.trans (k18.any _)
  refine WL.op (d := 5) (.int .i64 0) (k := ?_)
  refine WL.nil ?_
  refine WX.seqN ?_
  refine WC.seq ?_
  refine WC.region ?_
  refine WL.load (v := .agg #[.slice A rows.length cp, .int .i64 md]) (ldN (T := 24) (i := 0) (m := 2) (l := [.slice A rows.length cp, .int .i64 md]) hb4) (k := ?_)
  refine WL.callG (d := 14) (f := 55) (args := #[.agg #[.slice A rows.length cp, .int .i64 md]]) (u14Check_c (cp := cp) (hA.adds K) (by first | omega | simp | (simp; omega))) (k := fun e_ w22 h_ => ⟨.bool (tokB (⟨rows, md⟩ : GTable)), h_.1, ?_⟩)
  have k23 := h_.2; clear h_
  replace hb4 := k23.heap hb4 id
  replace hb10 := k23.heap hb10 id
  replace hb17 := k23.heap hb17 id
  replace K := K.trans (k23.any _)
  refine WL.op (d := 6) (.bool (tokB (⟨rows, md⟩ : GTable))) (k := ?_)
  refine WL.nil ?_
  refine WX.seqN ?_
  refine WC.seq ?_
  refine WC.region ?_
  refine WL.load (v := GOp.val o) (ldN (T := 46) (i := 0) (m := 10) (l := (Value.cells (GOp.val o)).toList) hb10) (k := ?_)
  refine WL.callG (d := 16) (f := 42) (args := #[GOp.val o]) (u13Check_c o w22) (k := fun e_ w24 h_ => ⟨.bool (decide (GOp.ok o)), h_.1, ?_⟩)
  have k25 := h_.2; clear h_
  replace hb4 := k25.heap hb4 id
  replace hb10 := k25.heap hb10 id
  replace hb17 := k25.heap hb17 id
  replace K := K.trans (k25.any _)
  refine WL.op (d := 7) (.bool (decide (GOp.ok o))) (k := ?_)
  refine WL.nil ?_
  refine WX.seqN ?_
  refine WC.seq ?_
  refine WC.seq ?_
  refine WC.region ?_
  refine WL.op (d := 17) (.bool (tokB (⟨rows, md⟩ : GTable))) (k := ?_)
  refine WL.op (d := 18) (.bool (!(tokB (⟨rows, md⟩ : GTable)))) (k := ?_)
  refine WL.op (d := 19) (.bool (!(tokB (⟨rows, md⟩ : GTable)))) (k := ?_)
  refine bsplit (!(tokB (⟨rows, md⟩ : GTable))) (fun h26 => ?_) (fun h26 => ?_)
  · have h27 : (tokB (⟨rows, md⟩ : GTable)) = false := by simpa using h26
    have ph27 := tok_f h27
    refine WL.rw (t := 19) (v := .bool true) (congrArg Value.bool h26) (k := ?_)
    refine WL.skip (d := 20) (k := ?_)
    refine WL.skip (d := 21) (k := ?_)
    refine WL.op (d := 22) (.bool true) (k := ?_)
    refine WL.nil ?_
    refine WX.seqN ?_
    refine WC.condT (k := ?_)
    refine WC.seq ?_
    refine WC.region ?_
    refine WL.op (d := 23) (.agg #[.slice none 0 0, .int .i64 0]) (k := ?_)
    refine WL.store (v := .agg #[.slice none 0 0, .int .i64 0]) (i := 0) (cs' := #[.slice none 0 0, .int .i64 0]) hb17 (k := fun w28 hb29 k30 => ?_)
    replace hb4 := k30.heap hb4 n20
    replace hb10 := k30.heap hb10 n21
    replace K := K.trans' k30 (fun i hi e => absurd (e ▸ hi) (Nat.not_lt.2 z19))
    clear hb17
    refine WL.op (d := 5) (.int .i64 1) (k := ?_)
    refine WL.nil ?_
    refine WX.seqN ?_
    refine WC.ret ?_
    refine WX.seqR ?_
    refine WX.ret (rs := [.cell 4 24, .tmp 5]) [.agg #[.slice none 0 0, .int .i64 0], .int .i64 1] (.tuple #[.agg #[.slice none 0 0, .int .i64 0], .int .i64 1]) ⟨⟨_, (by kernel_rfl), ldN (T := 24) (i := 0) (m := 2) (l := [.slice none 0 0, .int .i64 0]) hb29⟩, (by kernel_rfl), trivial⟩ (k := ?_)
    exact TabRes.nil (by simp [applyT, admitT, GTable.zero, h26, h27]) rfl K
  · have h31 : (tokB (⟨rows, md⟩ : GTable)) = true := by simpa using h26
    have ph31 := tok_t h31
    refine WL.rw (t := 19) (v := .bool false) (congrArg Value.bool h26) (k := ?_)
    refine WL.op (d := 20) (.bool (decide (GOp.ok o))) (k := ?_)
    refine WL.op (d := 21) (.bool (!(decide (GOp.ok o)))) (k := ?_)
    refine WL.op (d := 22) (.bool (!(decide (GOp.ok o)))) (k := ?_)
    refine WL.nil ?_
    refine WX.seqN ?_
    refine WC.cond (b := !(decide (GOp.ok o))) (ht := fun h32 => ?_) (hf := fun h32 => ?_)
    · have h33 : (decide (GOp.ok o)) = false := by simpa using h32
      have ph33 := of_decide_eq_false h33
      refine WC.seq ?_
      refine WC.region ?_
      refine WL.op (d := 23) (.agg #[.slice none 0 0, .int .i64 0]) (k := ?_)
      refine WL.store (v := .agg #[.slice none 0 0, .int .i64 0]) (i := 0) (cs' := #[.slice none 0 0, .int .i64 0]) hb17 (k := fun w34 hb35 k36 => ?_)
      replace hb4 := k36.heap hb4 n20
      replace hb10 := k36.heap hb10 n21
      replace K := K.trans' k36 (fun i hi e => absurd (e ▸ hi) (Nat.not_lt.2 z19))
      clear hb17
      refine WL.op (d := 5) (.int .i64 1) (k := ?_)
      refine WL.nil ?_
      refine WX.seqN ?_
      refine WC.ret ?_
      refine WX.seqR ?_
      refine WX.ret (rs := [.cell 4 24, .tmp 5]) [.agg #[.slice none 0 0, .int .i64 0], .int .i64 1] (.tuple #[.agg #[.slice none 0 0, .int .i64 0], .int .i64 1]) ⟨⟨_, (by kernel_rfl), ldN (T := 24) (i := 0) (m := 2) (l := [.slice none 0 0, .int .i64 0]) hb35⟩, (by kernel_rfl), trivial⟩ (k := ?_)
      have hs := upTo_sorted ph31.1
      exact TabRes.nil (by simp [applyT, admitT, GTable.zero, h26, h31, h32, h33, ph33]) rfl K
    · have h37 : (decide (GOp.ok o)) = true := by simpa using h32
      have ph37 := of_decide_eq_true h37
      refine WC.skip ?_
      refine WX.seqN ?_
      refine WC.seq ?_
      refine WC.region ?_
      refine WL.op (d := 24) (.pointer (some ⟨b1, 1, none⟩)) (k := ?_)
      refine WL.load (v := .int .i64 md) (ld1 (T := 3) (i := 1) hb4) (k := ?_)
      refine WL.op (d := 26) (.agg #[.slice none 0 0, .int .i64 md]) (k := ?_)
      refine WL.new (d := 8) (T := 24) #[.slice none 0 0, .int .i64 0] (k := fun b38 w39 g40 hb41 k42 => ?_)
      have z43 := Nat.le_trans K.size g40
      have n44 : b1 ≠ b38 := Nat.ne_of_lt (Nat.lt_of_lt_of_le (lt_of_heap hb4) g40)
      have n45 : b7 ≠ b38 := Nat.ne_of_lt (Nat.lt_of_lt_of_le (lt_of_heap hb10) g40)
      have n46 : b14 ≠ b38 := Nat.ne_of_lt (Nat.lt_of_lt_of_le (lt_of_heap hb17) g40)
      replace hb4 := k42.heap hb4 id
      replace hb10 := k42.heap hb10 id
      replace hb17 := k42.heap hb17 id
      replace K := K.trans (k42.any _)
      refine WL.store (v := .agg #[.slice none 0 0, .int .i64 md]) (i := 0) (cs' := #[.slice none 0 0, .int .i64 md]) hb41 (k := fun w47 hb48 k49 => ?_)
      replace hb4 := k49.heap hb4 n44
      replace hb10 := k49.heap hb10 n45
      replace hb17 := k49.heap hb17 n46
      replace K := K.trans' k49 (fun i hi e => absurd (e ▸ hi) (Nat.not_lt.2 z43))
      clear hb41
      refine WL.nil ?_
      refine WX.seqN ?_
      refine WC.seq ?_
      refine WC.seq ?_
      refine WC.region ?_
      refine WL.op (d := 27) (.pointer (some ⟨b7, 0, none⟩)) (k := ?_)
      refine WL.load (v := .int .i64 o.kind) (ld1 (T := 3) (i := 0) hb10) (k := ?_)
      refine WL.nil ?_
      refine WX.seqN ?_
      refine WC.block ?_
      refine WC.seq ?_
      refine WC.region ?_
      refine WL.op (d := 30) (.bool (o.kind == 1)) (k := ?_)
      refine WL.op (d := 29) (.bool (o.kind == 1)) (k := ?_)
      refine WL.nil ?_
      refine WX.seqN ?_
      refine WC.cond (b := o.kind == 1) (ht := fun h50 => ?_) (hf := fun h50 => ?_)
      · have ph50 := eq_of_beq h50
        refine WC.seq ?_
        refine WC.seq ?_
        refine WC.region ?_
        refine WL.load (v := .agg #[.slice A rows.length cp, .int .i64 md]) (ldN (T := 24) (i := 0) (m := 2) (l := [.slice A rows.length cp, .int .i64 md]) hb4) (k := ?_)
        refine WL.op (d := 32) (.pointer (some ⟨b7, 1, none⟩)) (k := ?_)
        refine WL.op (d := 33) (.pointer (some ⟨b7, 1, none⟩)) (k := ?_)
        refine WL.load (v := .int .i64 o.task.id) (ld1 (T := 3) (i := 1) hb10) (k := ?_)
        refine WL.callG (d := 35) (f := 87) (args := #[.agg #[.slice A rows.length cp, .int .i64 md], .int .i64 o.task.id]) (u14at_c (hA.adds K) (by omega) md o.task.id) (k := fun e_ w51 h_ => ⟨.int .i64 (idxR rows o.task.id), h_.1, ?_⟩)
        have k52 := h_.2; clear h_
        replace hb4 := k52.heap hb4 id
        replace hb10 := k52.heap hb10 id
        replace hb17 := k52.heap hb17 id
        replace hb48 := k52.heap hb48 id
        replace K := K.trans (k52.any _)
        refine WL.op (d := 36) (.bool (decide ((idxR rows o.task.id) ≥ 0))) (k := ?_)
        refine WL.nil ?_
        refine WX.seqN ?_
        refine WC.cond (b := decide ((idxR rows o.task.id) ≥ 0)) (ht := fun h53 => ?_) (hf := fun h53 => ?_)
        · have ph53 := of_decide_eq_true h53
          refine WC.seq ?_
          refine WC.region ?_
          refine WL.op (d := 37) (.agg #[.slice none 0 0, .int .i64 0]) (k := ?_)
          refine WL.store (v := .agg #[.slice none 0 0, .int .i64 0]) (i := 0) (cs' := #[.slice none 0 0, .int .i64 0]) hb17 (k := fun w54 hb55 k56 => ?_)
          replace hb4 := k56.heap hb4 n20
          replace hb10 := k56.heap hb10 n21
          replace hb48 := k56.heap hb48 (Ne.symm n46)
          replace K := K.trans' k56 (fun i hi e => absurd (e ▸ hi) (Nat.not_lt.2 z19))
          clear hb17
          refine WL.op (d := 5) (.int .i64 14) (k := ?_)
          refine WL.nil ?_
          refine WX.seqN ?_
          refine WC.ret ?_
          refine WX.seqR ?_
          refine WX.blockR ?_
          refine WX.seqR ?_
          refine WX.ret (rs := [.cell 4 24, .tmp 5]) [.agg #[.slice none 0 0, .int .i64 0], .int .i64 14] (.tuple #[.agg #[.slice none 0 0, .int .i64 0], .int .i64 14]) ⟨⟨_, (by kernel_rfl), ldN (T := 24) (i := 0) (m := 2) (l := [.slice none 0 0, .int .i64 0]) hb55⟩, (by kernel_rfl), trivial⟩ (k := ?_)
          have hs := upTo_sorted ph31.1
          have f_ := has_idx hs ph53
          exact TabRes.nil (by simp [applyT, admitT, GTable.zero, h26, h31, h32, h37, h50, h53, ph37, ph50, ph53, f_.1]) rfl K
        · have ph53 := of_decide_eq_false h53
          refine WC.skip ?_
          refine WX.seqN ?_
          refine WC.seq ?_
          refine WC.seq ?_
          refine WC.region ?_
          refine WL.op (d := 38) (.pointer (some ⟨b1, 0, none⟩)) (k := ?_)
          refine WL.load (v := .slice A rows.length cp) (ld1 (T := 22) (i := 0) hb4) (k := ?_)
          refine WL.op (d := 40) (.int .i64 (rows.length : Int)) (k := ?_)
          refine WL.op (d := 41) (.bool (decide ((rows.length : Int) ≥ 16))) (k := ?_)
          refine WL.nil ?_
          refine WX.seqN ?_
          refine WC.cond (b := decide ((rows.length : Int) ≥ 16)) (ht := fun h57 => ?_) (hf := fun h57 => ?_)
          · have ph57 := of_decide_eq_true h57
            refine WC.seq ?_
            refine WC.region ?_
            refine WL.op (d := 42) (.agg #[.slice none 0 0, .int .i64 0]) (k := ?_)
            refine WL.store (v := .agg #[.slice none 0 0, .int .i64 0]) (i := 0) (cs' := #[.slice none 0 0, .int .i64 0]) hb17 (k := fun w58 hb59 k60 => ?_)
            replace hb4 := k60.heap hb4 n20
            replace hb10 := k60.heap hb10 n21
            replace hb48 := k60.heap hb48 (Ne.symm n46)
            replace K := K.trans' k60 (fun i hi e => absurd (e ▸ hi) (Nat.not_lt.2 z19))
            clear hb17
            refine WL.op (d := 5) (.int .i64 15) (k := ?_)
            refine WL.nil ?_
            refine WX.seqN ?_
            refine WC.ret ?_
            refine WX.seqR ?_
            refine WX.blockR ?_
            refine WX.seqR ?_
            refine WX.ret (rs := [.cell 4 24, .tmp 5]) [.agg #[.slice none 0 0, .int .i64 0], .int .i64 15] (.tuple #[.agg #[.slice none 0 0, .int .i64 0], .int .i64 15]) ⟨⟨_, (by kernel_rfl), ldN (T := 24) (i := 0) (m := 2) (l := [.slice none 0 0, .int .i64 0]) hb59⟩, (by kernel_rfl), trivial⟩ (k := ?_)
            have hs := upTo_sorted ph31.1
            have g_ := has_neg (Int.not_le.1 ph53)
            exact TabRes.nil (by simp [applyT, admitT, GTable.zero, h26, h31, h32, h37, h50, h53, h57, ph37, ph50, ph53, ph57, g_]) rfl K
          · have ph57 := of_decide_eq_false h57
            refine WC.skip ?_
            refine WX.seqN ?_
            refine WC.seq ?_
            refine WC.region ?_
            refine WL.op (d := 9) (.bool false) (k := ?_)
            refine WL.nil ?_
            refine WX.seqN ?_
            refine WC.seq ?_
            refine WC.seq ?_
            refine WC.region ?_
            refine WL.op (d := 10) (.int .i64 0) (k := ?_)
            refine WL.nil ?_
            refine WX.seqN ?_
            refine WC.block ?_
            have hs := upTo_sorted ph31.1
            have hb61 : w51.heap[b38]? = some (.cells #[.slice none (insU rows (⟨o.task, o.sv⟩ : GRow) (posR rows o.task.id) 0).length 0, .int .i64 md] 24 (0, 0)) := by rw [insU_zero]; exact hb48
            clear hb48
            refine WC.loop (ι := Int × Bool × (Option Addr) × Nat) (fun (⟨i, put, Ao, co⟩ : Int × Bool × (Option Addr) × Nat) => [(0, .agg #[.slice A rows.length cp, .int .i64 md]), (1, GOp.val o), (2, .pointer (some ⟨b1, 0, none⟩)), (3, .pointer (some ⟨b7, 0, none⟩)), (4, .pointer (some ⟨b14, 0, none⟩)), (5, .int .i64 0), (13, .agg #[.slice A rows.length cp, .int .i64 md]), (14, .bool (tokB (⟨rows, md⟩ : GTable))), (6, .bool (tokB (⟨rows, md⟩ : GTable))), (15, GOp.val o), (16, .bool (decide (GOp.ok o))), (7, .bool (decide (GOp.ok o))), (17, .bool (tokB (⟨rows, md⟩ : GTable))), (18, .bool (!(tokB (⟨rows, md⟩ : GTable)))), (19, .bool false), (20, .bool (decide (GOp.ok o))), (21, .bool (!(decide (GOp.ok o)))), (22, .bool (!(decide (GOp.ok o)))), (24, .pointer (some ⟨b1, 1, none⟩)), (25, .int .i64 md), (26, .agg #[.slice none 0 0, .int .i64 md]), (8, .pointer (some ⟨b38, 0, none⟩)), (27, .pointer (some ⟨b7, 0, none⟩)), (28, .int .i64 o.kind), (30, .bool (o.kind == 1)), (29, .bool (o.kind == 1)), (31, .agg #[.slice A rows.length cp, .int .i64 md]), (32, .pointer (some ⟨b7, 1, none⟩)), (33, .pointer (some ⟨b7, 1, none⟩)), (34, .int .i64 o.task.id), (35, .int .i64 (idxR rows o.task.id)), (36, .bool (decide ((idxR rows o.task.id) ≥ 0))), (38, .pointer (some ⟨b1, 0, none⟩)), (39, .slice A rows.length cp), (40, .int .i64 (rows.length : Int)), (41, .bool (decide ((rows.length : Int) ≥ 16))), (10, .int .i64 i), (9, .bool put)]) (fun (⟨i, put, Ao, co⟩ : Int × Bool × (Option Addr) × Nat) (w_ : World) => (Keeps (fun _ => False) w w_) ∧ (w_.heap[b1]? = some (.cells #[.slice A rows.length cp, .int .i64 md] 24 (0, 0))) ∧ (w_.heap[b7]? = some (.cells (Value.cells (GOp.val o)) 46 (0, 0))) ∧ (w_.heap[b14]? = some (.cells #[.slice none 0 0, .int .i64 0] 24 (0, 0))) ∧ (w_.heap[b38]? = some (.cells #[.slice Ao ((insU rows (⟨o.task, o.sv⟩ : GRow) (posR rows o.task.id) i).length) co, .int .i64 md] 24 (0, 0))) ∧ (OwAt rowC 6 53 Ao co (insU rows (⟨o.task, o.sv⟩ : GRow) (posR rows o.task.id) i) w_) ∧ (∀ i, blk Ao = some i → w.heap.size ≤ i) ∧ (0 ≤ i) ∧ (i ≤ rows.length) ∧ (put = decide (((posR rows o.task.id) : Int) < i))) (fun (⟨i, put, Ao, co⟩ : Int × Bool × (Option Addr) × Nat) => (rows.length - i).toNat) (0, false, none, 0) ⟨(by kernel_rfl), (by kernel_rfl), (by kernel_rfl), (by kernel_rfl), (by kernel_rfl), (by kernel_rfl), (by kernel_rfl), (by kernel_rfl), (by kernel_rfl), (by kernel_rfl), (by kernel_rfl), (by kernel_rfl), (by kernel_rfl), (by kernel_rfl), (by kernel_rfl), (by kernel_rfl), (by kernel_rfl), (by kernel_rfl), (by kernel_rfl), (by kernel_rfl), (by kernel_rfl), (by kernel_rfl), (by kernel_rfl), (by kernel_rfl), (by kernel_rfl), (by kernel_rfl), (by kernel_rfl), (by kernel_rfl), (by kernel_rfl), (by kernel_rfl), (by kernel_rfl), (by kernel_rfl), (by kernel_rfl), (by kernel_rfl), (by kernel_rfl), (by kernel_rfl), (by kernel_rfl), (by kernel_rfl), trivial⟩ ⟨K, hb4, hb10, hb17, hb61, (by rw [insU_zero]; exact OwAt.nil), (by simp [blk]), Int.le_refl 0, (by omega), (by rw [decide_eq_false] <;> omega)⟩ ?_
            rintro ⟨i, put, Ao, co⟩ w62 ⟨K, hb63, hb64, hb65, hb66, hb67, ol68, i0, i1, ip⟩
            refine WC.seq ?_
            refine WC.seq ?_
            refine WC.region ?_
            refine WL.op (d := 43) (.int .i64 i) (k := ?_)
            refine WL.op (d := 44) (.pointer (some ⟨b1, 0, none⟩)) (k := ?_)
            refine WL.load (v := .slice A rows.length cp) (ld1 (T := 22) (i := 0) hb63) (k := ?_)
            refine WL.op (d := 46) (.int .i64 (rows.length : Int)) (k := ?_)
            refine WL.op (d := 47) (.bool (decide (i < (rows.length : Int)))) (k := ?_)
            refine WL.nil ?_
            refine WX.seqN ?_
            refine WC.cond (b := decide (i < (rows.length : Int))) (ht := fun h69 => ?_) (hf := fun h69 => ?_)
            · have ph69 := of_decide_eq_true h69
              refine WC.skip ?_
              refine WX.seqN ?_
              refine WC.seq ?_
              refine WC.block ?_
              refine WC.seq ?_
              refine WC.seq ?_
              refine WC.quiet (k := ?_)
              refine WQ.op (d := 50) (.bool put) (k := ?_)
              refine WQ.op (d := 51) (.bool (!(put))) (k := ?_)
              refine WQ.op (d := 52) (.bool (!(put))) (k := ?_)
              refine bsplit (!(put)) (fun h70 => ?_) (fun h70 => ?_)
              · have h71 : (put) = false := by simpa using h70
                refine WQ.rw (t := 52) (v := .bool true) (congrArg Value.bool h70) (k := ?_)
                refine WQ.op (d := 53) (.pointer (some ⟨b1, 0, none⟩)) (k := ?_)
                refine WQ.load (v := .slice A rows.length cp) (fun w_ k_ => ld1 (T := 22) (i := 0) (k_.heap hb63 id)) (k := ?_)
                refine WQ.op (d := 55) (.int .i64 i) (k := ?_)
                obtain ⟨b72, o73, r74, hr75, hA76, he77⟩ := SlAt.at hA (i := i) (by omega) (by omega)
                refine WQ.rw (t := 54) (v := .slice (some ⟨b72, o73, none⟩) rows.length cp) (congrArg (fun a => Value.slice a rows.length cp) hA76) (k := ?_)
                refine WQ.idx (T := 22) (E := 53) (m := 6) (b := b72) (o := o73) (len := rows.length) (cap := cp) (i := i) (kk := .i64) (d := 56) (by omega) (by omega) (k := ?_)
                refine WQ.rw (t := 54) (v := .slice A rows.length cp) (congrArg (fun a => Value.slice a rows.length cp) (Eq.symm hA76)) (k := ?_)
                refine WQ.op (d := 57) (.pointer (some ⟨b72, o73 + (i).toNat * 6, none⟩)) (k := ?_)
                refine WQ.op (d := 58) (.pointer (some ⟨b72, o73 + (i).toNat * 6, none⟩)) (k := ?_)
                refine WQ.load (v := .int .i64 r74.task.id) (fun w_ k_ => ((he77.adds K).adds k_).ld0 (T := 3)) (k := ?_)
                refine WQ.op (d := 60) (.pointer (some ⟨b7, 1, none⟩)) (k := ?_)
                refine WQ.op (d := 61) (.pointer (some ⟨b7, 1, none⟩)) (k := ?_)
                refine WQ.load (v := .int .i64 o.task.id) (fun w_ k_ => ld1 (T := 3) (i := 1) (k_.heap hb64 id)) (k := ?_)
                refine WQ.op (d := 63) (.bool (decide (r74.task.id > o.task.id))) (k := ?_)
                refine WQ.op (d := 64) (.bool (decide (r74.task.id > o.task.id))) (k := ?_)
                refine WQ.nilX (fun w78 k79 => ?_)
                replace hb63 := k79.heap hb63 id
                replace hb64 := k79.heap hb64 id
                replace hb65 := k79.heap hb65 id
                replace hb66 := k79.heap hb66 id
                replace hb67 := hb67.adds k79
                replace K := K.trans (k79.any _)
                refine WX.seqN ?_
                refine WC.cond (b := decide (r74.task.id > o.task.id)) (ht := fun h80 => ?_) (hf := fun h80 => ?_)
                · have ph80 := of_decide_eq_true h80
                  refine WC.seq ?_
                  refine WC.region ?_
                  refine WL.op (d := 65) (.pointer (some ⟨b38, 0, none⟩)) (k := ?_)
                  refine WL.load (v := .slice Ao ((insU rows (⟨o.task, o.sv⟩ : GRow) (posR rows o.task.id) i).length) co) (ld1 (T := 22) (i := 0) hb66) (k := ?_)
                  refine WL.op (d := 67) (.pointer (some ⟨b7, 1, none⟩)) (k := ?_)
                  refine WL.load (v := GTask.val o.task) (ldN (T := 44) (i := 1) (m := 5) (l := (Value.cells (GTask.val o.task)).toList) hb64) (k := ?_)
                  refine WL.op (d := 69) (.pointer (some ⟨b7, 6, none⟩)) (k := ?_)
                  refine WL.load (v := .bool o.sv) (ld1 (T := 4) (i := 6) hb64) (k := ?_)
                  refine WL.op (d := 71) (.agg #[.int .i64 o.task.id, .int .i64 o.task.c, .int .i64 o.task.d, .int .i64 o.task.t, .int .i64 o.task.m, .bool o.sv]) (k := ?_)
                  refine WL.newF (d := 72) (T := 53) #[.int .i64 o.task.id, .int .i64 o.task.c, .int .i64 o.task.d, .int .i64 o.task.t, .int .i64 o.task.m, .bool o.sv] (fun b => .slice (some ⟨b, 0, none⟩) 1 1) (k := fun b81 w82 g83 hb84 k85 => ?_)
                  have z86 := Nat.le_trans K.size g83
                  have n87 : b1 ≠ b81 := Nat.ne_of_lt (Nat.lt_of_lt_of_le (lt_of_heap hb63) g83)
                  have n88 : b7 ≠ b81 := Nat.ne_of_lt (Nat.lt_of_lt_of_le (lt_of_heap hb64) g83)
                  have n89 : b14 ≠ b81 := Nat.ne_of_lt (Nat.lt_of_lt_of_le (lt_of_heap hb65) g83)
                  have n90 : b38 ≠ b81 := Nat.ne_of_lt (Nat.lt_of_lt_of_le (lt_of_heap hb66) g83)
                  have n91 := OwAt.off_new hb67 g83
                  replace hb63 := k85.heap hb63 id
                  replace hb64 := k85.heap hb64 id
                  replace hb65 := k85.heap hb65 id
                  replace hb66 := k85.heap hb66 id
                  replace hb67 := hb67.adds k85
                  replace K := K.trans (k85.any _)
                  refine WL.append (d := 73) (T := 22) (cl := rowC) (xs := insU rows (⟨o.task, o.sv⟩ : GRow) (posR rows o.task.id) i) (ys := [(⟨o.task, o.sv⟩ : GRow)]) (c := 1) ekRow hb67 (SlAt.of_lit (ys := [(⟨o.task, o.sv⟩ : GRow)]) ekRow hb84 (by kernel_rfl)) (by first | omega | (simp; omega) | (have hz_ := insU_len rows (⟨o.task, o.sv⟩ : GRow) (posR rows o.task.id) i; simp; omega)) (k := fun A92 c93 w94 ho95 k96 n97 => ?_)
                  have ol98 := olink_step ol68 K n97
                  replace hb63 := k96.heap hb63 (hb67.offT hb63 (by decide))
                  replace hb64 := k96.heap hb64 (hb67.offT hb64 (by decide))
                  replace hb65 := k96.heap hb65 (hb67.offT hb65 (by decide))
                  replace hb66 := k96.heap hb66 (hb67.offT hb66 (by decide))
                  replace K := K.trans' k96 (fun i hi e => absurd hi (Nat.not_lt.2 (ol68 i e)))
                  clear hb67
                  refine WL.op (d := 74) (.pointer (some ⟨b38, 0, none⟩)) (k := ?_)
                  refine WL.store (v := .slice A92 ((insU rows (⟨o.task, o.sv⟩ : GRow) (posR rows o.task.id) i ++ [(⟨o.task, o.sv⟩ : GRow)]).length) c93) (i := 0) (cs' := #[.slice A92 ((insU rows (⟨o.task, o.sv⟩ : GRow) (posR rows o.task.id) i ++ [(⟨o.task, o.sv⟩ : GRow)]).length) c93, .int .i64 md]) hb66 (k := fun w99 hb100 k101 => ?_)
                  replace hb63 := k101.heap hb63 n44
                  replace hb64 := k101.heap hb64 n45
                  replace hb65 := k101.heap hb65 n46
                  replace ho95 := ho95.keeps k101 (fun i hi e => (ho95.offT hb66 (by decide)) (e ▸ hi))
                  replace K := K.trans' k101 (fun i hi e => absurd (e ▸ hi) (Nat.not_lt.2 z43))
                  clear hb66
                  refine WL.nil ?_
                  refine WX.seqN ?_
                  refine WC.region ?_
                  refine WL.op (d := 9) (.bool true) (k := ?_)
                  refine WL.nil ?_
                  refine WX.seqN ?_
                  refine WC.mixed (fun k => blk A92 = some k) 10 (k := fun w102 k103 => ?_)
                  replace hb63 := k103.heap hb63 id
                  replace hb64 := k103.heap hb64 id
                  replace hb65 := k103.heap hb65 id
                  replace hb100 := k103.heap hb100 id
                  replace ho95 := ho95.adds k103
                  replace K := K.trans (k103.any _)
                  have KC := Keeps.refl (fun k => blk A92 = some k) w102
                  have bh104 := hb63
                  have bh105 := hb64
                  have bh106 := hb65
                  have bh107 := hb100
                  have Kb := K
                  refine WA.quiet 0 (d := 75) (.pointer (some ⟨b38, 0, none⟩)) KC (hi := rfl) (k := ?_)
                  refine WA.quietR 1 (d := 76) (.slice A92 ((insU rows (⟨o.task, o.sv⟩ : GRow) (posR rows o.task.id) i ++ [(⟨o.task, o.sv⟩ : GRow)]).length) c93) KC (exec_load (fun w_ k_ => ld1 (T := 22) (i := 0) (k_.heap bh107 (ho95.offT hb100 (by decide))))) (hi := rfl) (k := ?_)
                  refine WA.quiet 2 (d := 77) (.pointer (some ⟨b1, 0, none⟩)) KC (hi := rfl) (k := ?_)
                  refine WA.quietR 3 (d := 78) (.slice A rows.length cp) KC (exec_load (fun w_ k_ => ld1 (T := 22) (i := 0) (k_.heap bh104 (ho95.offT hb63 (by decide))))) (hi := rfl) (k := ?_)
                  refine WA.quiet 4 (d := 79) (.int .i64 i) KC (hi := rfl) (k := ?_)
                  obtain ⟨b108, o109, r110, hr111, hA112, he113⟩ := SlAt.at hA (i := i) (by omega) (by omega)
                  refine WA.rw (t := 78) (v := .slice (some ⟨b108, o109, none⟩) rows.length cp) (congrArg (fun a => Value.slice a rows.length cp) hA112) (k := ?_)
                  refine WA.quietR 5 (d := 80) (.pointer (some ⟨b108, o109 + (i).toNat * 6, none⟩)) KC (exec_idx (T := 22) (E := 53) (m := 6) (b := b108) (o := o109) (len := rows.length) (cap := cp) (i := i) (kk := .i64) (by omega) (by omega)) (hi := rfl) (k := ?_)
                  refine WA.rw (t := 78) (v := .slice A rows.length cp) (congrArg (fun a => Value.slice a rows.length cp) (Eq.symm hA112)) (k := ?_)
                  refine WA.quietR 6 (d := 81) (GRow.val r110) KC (exec_load (fun w_ k_ => ((he113.adds Kb).keeps k_ (fun e_ => absurd (ElAt.lt he113) (Nat.not_lt.2 (ol98 _ e_)))).ldW (T := 53))) (hi := rfl) (k := ?_)
                  refine WA.step 7 (hi := rfl) (k := ?_)
                  refine WL.newF (d := 82) (T := 53) (Value.cells (GRow.val r110)) (fun b => .slice (some ⟨b, 0, none⟩) 1 1) (k := fun b114 w115 g116 hb117 k118 => ?_)
                  have z119 := Nat.le_trans K.size g116
                  have zc120 := Nat.le_trans KC.size g116
                  have n121 : b1 ≠ b114 := Nat.ne_of_lt (Nat.lt_of_lt_of_le (lt_of_heap hb63) g116)
                  have n122 : b7 ≠ b114 := Nat.ne_of_lt (Nat.lt_of_lt_of_le (lt_of_heap hb64) g116)
                  have n123 : b14 ≠ b114 := Nat.ne_of_lt (Nat.lt_of_lt_of_le (lt_of_heap hb65) g116)
                  have n124 : b38 ≠ b114 := Nat.ne_of_lt (Nat.lt_of_lt_of_le (lt_of_heap hb100) g116)
                  have n125 := OwAt.off_new ho95 g116
                  replace hb63 := k118.heap hb63 id
                  replace hb64 := k118.heap hb64 id
                  replace hb65 := k118.heap hb65 id
                  replace hb100 := k118.heap hb100 id
                  replace ho95 := ho95.adds k118
                  replace K := K.trans (k118.any _)
                  replace KC := KC.trans (k118.any _)
                  refine WL.nil ?_
                  refine WX.nxt KC ?_
                  refine WA.step 8 (hi := rfl) (k := ?_)
                  refine WL.append (d := 83) (T := 22) (cl := rowC) (xs := insU rows (⟨o.task, o.sv⟩ : GRow) (posR rows o.task.id) i ++ [(⟨o.task, o.sv⟩ : GRow)]) (ys := [r110]) (c := 1) ekRow ho95 (SlAt.of_lit (ys := [r110]) ekRow hb117 (by kernel_rfl)) (by first | omega | (simp; omega) | (have hz_ := insU_len rows (⟨o.task, o.sv⟩ : GRow) (posR rows o.task.id) i; simp; omega)) (k := fun A126 c127 w128 ho129 k130 n131 => ?_)
                  have ol132 := olink_step ol98 K n131
                  replace hb63 := k130.heap hb63 (ho95.offT hb63 (by decide))
                  replace hb64 := k130.heap hb64 (ho95.offT hb64 (by decide))
                  replace hb65 := k130.heap hb65 (ho95.offT hb65 (by decide))
                  replace hb100 := k130.heap hb100 (ho95.offT hb100 (by decide))
                  replace K := K.trans' k130 (fun i hi e => absurd hi (Nat.not_lt.2 (ol98 i e)))
                  replace KC := KC.trans' k130 (fun i hi e => e)
                  clear ho95
                  refine WL.nil ?_
                  refine WX.nxt KC ?_
                  refine WA.quiet 9 (d := 84) (.pointer (some ⟨b38, 0, none⟩)) KC (hi := rfl) (k := ?_)
                  refine WA.step 10 (hi := rfl) (k := ?_)
                  refine WL.store (v := .slice A126 ((insU rows (⟨o.task, o.sv⟩ : GRow) (posR rows o.task.id) i ++ [(⟨o.task, o.sv⟩ : GRow)] ++ [r110]).length) c127) (i := 0) (cs' := #[.slice A126 ((insU rows (⟨o.task, o.sv⟩ : GRow) (posR rows o.task.id) i ++ [(⟨o.task, o.sv⟩ : GRow)] ++ [r110]).length) c127, .int .i64 md]) hb100 (k := fun w133 hb134 k135 => ?_)
                  replace hb63 := k135.heap hb63 n44
                  replace hb64 := k135.heap hb64 n45
                  replace hb65 := k135.heap hb65 n46
                  replace ho129 := ho129.keeps k135 (fun i hi e => (ho129.offT hb100 (by decide)) (e ▸ hi))
                  replace K := K.trans' k135 (fun i hi e => absurd (e ▸ hi) (Nat.not_lt.2 z43))
                  clear hb100
                  refine WL.nil ?_
                  refine WX.nxtL ?_
                  refine WA.done (k := ?_)
                  clear KC
                  refine WX.blockN ?_
                  refine WX.seqN ?_
                  refine WC.region ?_
                  refine WL.op (d := 48) (.int .i64 i) (k := ?_)
                  refine WL.opE (d := 49) (.int .i64 (IntKind.i64.wrap (i + 1))) (v := .int .i64 (i + 1)) (congrArg (Value.int .i64) (IntWalk.i64_in _ (by omega))) (k := ?_)
                  refine WL.op (d := 10) (.int .i64 (i + 1)) (k := ?_)
                  refine WL.nil ?_
                  have pp136 : ((posR rows o.task.id) : Int) = i := (by have q_ : ((posR rows o.task.id) : Int) ≤ i := (pos_gt hs (Int.not_le.1 ph53) i0 hr75).2 ph80; have n_ : ¬ ((posR rows o.task.id) : Int) < i := (of_decide_eq_false (ip.symm.trans h71)); omega)
                  have e137 : insU rows (⟨o.task, o.sv⟩ : GRow) (posR rows o.task.id) i ++ [(⟨o.task, o.sv⟩ : GRow)] ++ [r110] = insU rows (⟨o.task, o.sv⟩ : GRow) (posR rows o.task.id) (i + 1) := insU_at i0 hr111 pp136
                  rw [e137] at ho129
                  rw [e137] at hb134
                  refine WX.round (i + 1, true, A126, c127) (by show (rows.length - (i + 1)).toNat < (rows.length - i).toNat; omega) ⟨(by kernel_rfl), (by kernel_rfl), (by kernel_rfl), (by kernel_rfl), (by kernel_rfl), (by kernel_rfl), (by kernel_rfl), (by kernel_rfl), (by kernel_rfl), (by kernel_rfl), (by kernel_rfl), (by kernel_rfl), (by kernel_rfl), (by kernel_rfl), (by kernel_rfl), (by kernel_rfl), (by kernel_rfl), (by kernel_rfl), (by kernel_rfl), (by kernel_rfl), (by kernel_rfl), (by kernel_rfl), (by kernel_rfl), (by kernel_rfl), (by kernel_rfl), (by kernel_rfl), (by kernel_rfl), (by kernel_rfl), (by kernel_rfl), (by kernel_rfl), (by kernel_rfl), (by kernel_rfl), (by kernel_rfl), (by kernel_rfl), (by kernel_rfl), (by kernel_rfl), (by kernel_rfl), (by kernel_rfl), trivial⟩ ⟨K, hb63, hb64, hb65, hb134, ho129, ol132, (by omega), (by omega), (by rw [decide_eq_true] <;> omega)⟩
                · have ph80 := of_decide_eq_false h80
                  refine WC.skip ?_
                  refine WX.seqN ?_
                  refine WC.mixed (fun k => blk Ao = some k) 10 (k := fun w138 k139 => ?_)
                  replace hb63 := k139.heap hb63 id
                  replace hb64 := k139.heap hb64 id
                  replace hb65 := k139.heap hb65 id
                  replace hb66 := k139.heap hb66 id
                  replace hb67 := hb67.adds k139
                  replace K := K.trans (k139.any _)
                  have KC := Keeps.refl (fun k => blk Ao = some k) w138
                  have bh140 := hb63
                  have bh141 := hb64
                  have bh142 := hb65
                  have bh143 := hb66
                  have Kb := K
                  refine WA.quiet 0 (d := 75) (.pointer (some ⟨b38, 0, none⟩)) KC (hi := rfl) (k := ?_)
                  refine WA.quietR 1 (d := 76) (.slice Ao ((insU rows (⟨o.task, o.sv⟩ : GRow) (posR rows o.task.id) i).length) co) KC (exec_load (fun w_ k_ => ld1 (T := 22) (i := 0) (k_.heap bh143 (hb67.offT hb66 (by decide))))) (hi := rfl) (k := ?_)
                  refine WA.quiet 2 (d := 77) (.pointer (some ⟨b1, 0, none⟩)) KC (hi := rfl) (k := ?_)
                  refine WA.quietR 3 (d := 78) (.slice A rows.length cp) KC (exec_load (fun w_ k_ => ld1 (T := 22) (i := 0) (k_.heap bh140 (hb67.offT hb63 (by decide))))) (hi := rfl) (k := ?_)
                  refine WA.quiet 4 (d := 79) (.int .i64 i) KC (hi := rfl) (k := ?_)
                  obtain ⟨b144, o145, r146, hr147, hA148, he149⟩ := SlAt.at hA (i := i) (by omega) (by omega)
                  refine WA.rw (t := 78) (v := .slice (some ⟨b144, o145, none⟩) rows.length cp) (congrArg (fun a => Value.slice a rows.length cp) hA148) (k := ?_)
                  refine WA.quietR 5 (d := 80) (.pointer (some ⟨b144, o145 + (i).toNat * 6, none⟩)) KC (exec_idx (T := 22) (E := 53) (m := 6) (b := b144) (o := o145) (len := rows.length) (cap := cp) (i := i) (kk := .i64) (by omega) (by omega)) (hi := rfl) (k := ?_)
                  refine WA.rw (t := 78) (v := .slice A rows.length cp) (congrArg (fun a => Value.slice a rows.length cp) (Eq.symm hA148)) (k := ?_)
                  refine WA.quietR 6 (d := 81) (GRow.val r146) KC (exec_load (fun w_ k_ => ((he149.adds Kb).keeps k_ (fun e_ => absurd (ElAt.lt he149) (Nat.not_lt.2 (ol68 _ e_)))).ldW (T := 53))) (hi := rfl) (k := ?_)
                  refine WA.step 7 (hi := rfl) (k := ?_)
                  refine WL.newF (d := 82) (T := 53) (Value.cells (GRow.val r146)) (fun b => .slice (some ⟨b, 0, none⟩) 1 1) (k := fun b150 w151 g152 hb153 k154 => ?_)
                  have z155 := Nat.le_trans K.size g152
                  have zc156 := Nat.le_trans KC.size g152
                  have n157 : b1 ≠ b150 := Nat.ne_of_lt (Nat.lt_of_lt_of_le (lt_of_heap hb63) g152)
                  have n158 : b7 ≠ b150 := Nat.ne_of_lt (Nat.lt_of_lt_of_le (lt_of_heap hb64) g152)
                  have n159 : b14 ≠ b150 := Nat.ne_of_lt (Nat.lt_of_lt_of_le (lt_of_heap hb65) g152)
                  have n160 : b38 ≠ b150 := Nat.ne_of_lt (Nat.lt_of_lt_of_le (lt_of_heap hb66) g152)
                  have n161 := OwAt.off_new hb67 g152
                  replace hb63 := k154.heap hb63 id
                  replace hb64 := k154.heap hb64 id
                  replace hb65 := k154.heap hb65 id
                  replace hb66 := k154.heap hb66 id
                  replace hb67 := hb67.adds k154
                  replace K := K.trans (k154.any _)
                  replace KC := KC.trans (k154.any _)
                  refine WL.nil ?_
                  refine WX.nxt KC ?_
                  refine WA.step 8 (hi := rfl) (k := ?_)
                  refine WL.append (d := 83) (T := 22) (cl := rowC) (xs := insU rows (⟨o.task, o.sv⟩ : GRow) (posR rows o.task.id) i) (ys := [r146]) (c := 1) ekRow hb67 (SlAt.of_lit (ys := [r146]) ekRow hb153 (by kernel_rfl)) (by first | omega | (simp; omega) | (have hz_ := insU_len rows (⟨o.task, o.sv⟩ : GRow) (posR rows o.task.id) i; simp; omega)) (k := fun A162 c163 w164 ho165 k166 n167 => ?_)
                  have ol168 := olink_step ol68 K n167
                  replace hb63 := k166.heap hb63 (hb67.offT hb63 (by decide))
                  replace hb64 := k166.heap hb64 (hb67.offT hb64 (by decide))
                  replace hb65 := k166.heap hb65 (hb67.offT hb65 (by decide))
                  replace hb66 := k166.heap hb66 (hb67.offT hb66 (by decide))
                  replace K := K.trans' k166 (fun i hi e => absurd hi (Nat.not_lt.2 (ol68 i e)))
                  replace KC := KC.trans' k166 (fun i hi e => e)
                  clear hb67
                  refine WL.nil ?_
                  refine WX.nxt KC ?_
                  refine WA.quiet 9 (d := 84) (.pointer (some ⟨b38, 0, none⟩)) KC (hi := rfl) (k := ?_)
                  refine WA.step 10 (hi := rfl) (k := ?_)
                  refine WL.store (v := .slice A162 ((insU rows (⟨o.task, o.sv⟩ : GRow) (posR rows o.task.id) i ++ [r146]).length) c163) (i := 0) (cs' := #[.slice A162 ((insU rows (⟨o.task, o.sv⟩ : GRow) (posR rows o.task.id) i ++ [r146]).length) c163, .int .i64 md]) hb66 (k := fun w169 hb170 k171 => ?_)
                  replace hb63 := k171.heap hb63 n44
                  replace hb64 := k171.heap hb64 n45
                  replace hb65 := k171.heap hb65 n46
                  replace ho165 := ho165.keeps k171 (fun i hi e => (ho165.offT hb66 (by decide)) (e ▸ hi))
                  replace K := K.trans' k171 (fun i hi e => absurd (e ▸ hi) (Nat.not_lt.2 z43))
                  clear hb66
                  refine WL.nil ?_
                  refine WX.nxtL ?_
                  refine WA.done (k := ?_)
                  clear KC
                  refine WX.blockN ?_
                  refine WX.seqN ?_
                  refine WC.region ?_
                  refine WL.op (d := 48) (.int .i64 i) (k := ?_)
                  refine WL.opE (d := 49) (.int .i64 (IntKind.i64.wrap (i + 1))) (v := .int .i64 (i + 1)) (congrArg (Value.int .i64) (IntWalk.i64_in _ (by omega))) (k := ?_)
                  refine WL.op (d := 10) (.int .i64 (i + 1)) (k := ?_)
                  refine WL.nil ?_
                  refine WX.rw (t := 9) (v := .bool false) (congrArg Value.bool h71) (k := ?_)
                  have pp172 : i < ((posR rows o.task.id) : Int) := (by have q_ : ¬ ((posR rows o.task.id) : Int) ≤ i := fun h => ph80 ((pos_gt hs (Int.not_le.1 ph53) i0 hr75).1 h); omega)
                  have e173 : insU rows (⟨o.task, o.sv⟩ : GRow) (posR rows o.task.id) i ++ [r146] = insU rows (⟨o.task, o.sv⟩ : GRow) (posR rows o.task.id) (i + 1) := insU_before i0 hr147 pp172
                  rw [e173] at ho165
                  rw [e173] at hb170
                  refine WX.round (i + 1, false, A162, c163) (by show (rows.length - (i + 1)).toNat < (rows.length - i).toNat; omega) ⟨(by kernel_rfl), (by kernel_rfl), (by kernel_rfl), (by kernel_rfl), (by kernel_rfl), (by kernel_rfl), (by kernel_rfl), (by kernel_rfl), (by kernel_rfl), (by kernel_rfl), (by kernel_rfl), (by kernel_rfl), (by kernel_rfl), (by kernel_rfl), (by kernel_rfl), (by kernel_rfl), (by kernel_rfl), (by kernel_rfl), (by kernel_rfl), (by kernel_rfl), (by kernel_rfl), (by kernel_rfl), (by kernel_rfl), (by kernel_rfl), (by kernel_rfl), (by kernel_rfl), (by kernel_rfl), (by kernel_rfl), (by kernel_rfl), (by kernel_rfl), (by kernel_rfl), (by kernel_rfl), (by kernel_rfl), (by kernel_rfl), (by kernel_rfl), (by kernel_rfl), (by kernel_rfl), (by kernel_rfl), trivial⟩ ⟨K, hb63, hb64, hb65, hb170, ho165, ol168, (by omega), (by omega), (by rw [decide_eq_false] <;> omega)⟩
              · have h174 : (put) = true := by simpa using h70
                refine WQ.rw (t := 52) (v := .bool false) (congrArg Value.bool h70) (k := ?_)
                refine WQ.skip (d := 53) (k := ?_)
                refine WQ.skip (d := 54) (k := ?_)
                refine WQ.skip (d := 55) (k := ?_)
                refine WQ.skip (d := 56) (k := ?_)
                refine WQ.skip (d := 57) (k := ?_)
                refine WQ.skip (d := 58) (k := ?_)
                refine WQ.skip (d := 59) (k := ?_)
                refine WQ.skip (d := 60) (k := ?_)
                refine WQ.skip (d := 61) (k := ?_)
                refine WQ.skip (d := 62) (k := ?_)
                refine WQ.skip (d := 63) (k := ?_)
                refine WQ.op (d := 64) (.bool false) (k := ?_)
                refine WQ.nilX (fun w175 k176 => ?_)
                replace hb63 := k176.heap hb63 id
                replace hb64 := k176.heap hb64 id
                replace hb65 := k176.heap hb65 id
                replace hb66 := k176.heap hb66 id
                replace hb67 := hb67.adds k176
                replace K := K.trans (k176.any _)
                refine WX.seqN ?_
                refine WC.condF (k := ?_)
                refine WC.skip ?_
                refine WX.seqN ?_
                refine WC.mixed (fun k => blk Ao = some k) 10 (k := fun w177 k178 => ?_)
                replace hb63 := k178.heap hb63 id
                replace hb64 := k178.heap hb64 id
                replace hb65 := k178.heap hb65 id
                replace hb66 := k178.heap hb66 id
                replace hb67 := hb67.adds k178
                replace K := K.trans (k178.any _)
                have KC := Keeps.refl (fun k => blk Ao = some k) w177
                have bh179 := hb63
                have bh180 := hb64
                have bh181 := hb65
                have bh182 := hb66
                have Kb := K
                refine WA.quiet 0 (d := 75) (.pointer (some ⟨b38, 0, none⟩)) KC (hi := rfl) (k := ?_)
                refine WA.quietR 1 (d := 76) (.slice Ao ((insU rows (⟨o.task, o.sv⟩ : GRow) (posR rows o.task.id) i).length) co) KC (exec_load (fun w_ k_ => ld1 (T := 22) (i := 0) (k_.heap bh182 (hb67.offT hb66 (by decide))))) (hi := rfl) (k := ?_)
                refine WA.quiet 2 (d := 77) (.pointer (some ⟨b1, 0, none⟩)) KC (hi := rfl) (k := ?_)
                refine WA.quietR 3 (d := 78) (.slice A rows.length cp) KC (exec_load (fun w_ k_ => ld1 (T := 22) (i := 0) (k_.heap bh179 (hb67.offT hb63 (by decide))))) (hi := rfl) (k := ?_)
                refine WA.quiet 4 (d := 79) (.int .i64 i) KC (hi := rfl) (k := ?_)
                obtain ⟨b183, o184, r185, hr186, hA187, he188⟩ := SlAt.at hA (i := i) (by omega) (by omega)
                refine WA.rw (t := 78) (v := .slice (some ⟨b183, o184, none⟩) rows.length cp) (congrArg (fun a => Value.slice a rows.length cp) hA187) (k := ?_)
                refine WA.quietR 5 (d := 80) (.pointer (some ⟨b183, o184 + (i).toNat * 6, none⟩)) KC (exec_idx (T := 22) (E := 53) (m := 6) (b := b183) (o := o184) (len := rows.length) (cap := cp) (i := i) (kk := .i64) (by omega) (by omega)) (hi := rfl) (k := ?_)
                refine WA.rw (t := 78) (v := .slice A rows.length cp) (congrArg (fun a => Value.slice a rows.length cp) (Eq.symm hA187)) (k := ?_)
                refine WA.quietR 6 (d := 81) (GRow.val r185) KC (exec_load (fun w_ k_ => ((he188.adds Kb).keeps k_ (fun e_ => absurd (ElAt.lt he188) (Nat.not_lt.2 (ol68 _ e_)))).ldW (T := 53))) (hi := rfl) (k := ?_)
                refine WA.step 7 (hi := rfl) (k := ?_)
                refine WL.newF (d := 82) (T := 53) (Value.cells (GRow.val r185)) (fun b => .slice (some ⟨b, 0, none⟩) 1 1) (k := fun b189 w190 g191 hb192 k193 => ?_)
                have z194 := Nat.le_trans K.size g191
                have zc195 := Nat.le_trans KC.size g191
                have n196 : b1 ≠ b189 := Nat.ne_of_lt (Nat.lt_of_lt_of_le (lt_of_heap hb63) g191)
                have n197 : b7 ≠ b189 := Nat.ne_of_lt (Nat.lt_of_lt_of_le (lt_of_heap hb64) g191)
                have n198 : b14 ≠ b189 := Nat.ne_of_lt (Nat.lt_of_lt_of_le (lt_of_heap hb65) g191)
                have n199 : b38 ≠ b189 := Nat.ne_of_lt (Nat.lt_of_lt_of_le (lt_of_heap hb66) g191)
                have n200 := OwAt.off_new hb67 g191
                replace hb63 := k193.heap hb63 id
                replace hb64 := k193.heap hb64 id
                replace hb65 := k193.heap hb65 id
                replace hb66 := k193.heap hb66 id
                replace hb67 := hb67.adds k193
                replace K := K.trans (k193.any _)
                replace KC := KC.trans (k193.any _)
                refine WL.nil ?_
                refine WX.nxt KC ?_
                refine WA.step 8 (hi := rfl) (k := ?_)
                refine WL.append (d := 83) (T := 22) (cl := rowC) (xs := insU rows (⟨o.task, o.sv⟩ : GRow) (posR rows o.task.id) i) (ys := [r185]) (c := 1) ekRow hb67 (SlAt.of_lit (ys := [r185]) ekRow hb192 (by kernel_rfl)) (by first | omega | (simp; omega) | (have hz_ := insU_len rows (⟨o.task, o.sv⟩ : GRow) (posR rows o.task.id) i; simp; omega)) (k := fun A201 c202 w203 ho204 k205 n206 => ?_)
                have ol207 := olink_step ol68 K n206
                replace hb63 := k205.heap hb63 (hb67.offT hb63 (by decide))
                replace hb64 := k205.heap hb64 (hb67.offT hb64 (by decide))
                replace hb65 := k205.heap hb65 (hb67.offT hb65 (by decide))
                replace hb66 := k205.heap hb66 (hb67.offT hb66 (by decide))
                replace K := K.trans' k205 (fun i hi e => absurd hi (Nat.not_lt.2 (ol68 i e)))
                replace KC := KC.trans' k205 (fun i hi e => e)
                clear hb67
                refine WL.nil ?_
                refine WX.nxt KC ?_
                refine WA.quiet 9 (d := 84) (.pointer (some ⟨b38, 0, none⟩)) KC (hi := rfl) (k := ?_)
                refine WA.step 10 (hi := rfl) (k := ?_)
                refine WL.store (v := .slice A201 ((insU rows (⟨o.task, o.sv⟩ : GRow) (posR rows o.task.id) i ++ [r185]).length) c202) (i := 0) (cs' := #[.slice A201 ((insU rows (⟨o.task, o.sv⟩ : GRow) (posR rows o.task.id) i ++ [r185]).length) c202, .int .i64 md]) hb66 (k := fun w208 hb209 k210 => ?_)
                replace hb63 := k210.heap hb63 n44
                replace hb64 := k210.heap hb64 n45
                replace hb65 := k210.heap hb65 n46
                replace ho204 := ho204.keeps k210 (fun i hi e => (ho204.offT hb66 (by decide)) (e ▸ hi))
                replace K := K.trans' k210 (fun i hi e => absurd (e ▸ hi) (Nat.not_lt.2 z43))
                clear hb66
                refine WL.nil ?_
                refine WX.nxtL ?_
                refine WA.done (k := ?_)
                clear KC
                refine WX.blockN ?_
                refine WX.seqN ?_
                refine WC.region ?_
                refine WL.op (d := 48) (.int .i64 i) (k := ?_)
                refine WL.opE (d := 49) (.int .i64 (IntKind.i64.wrap (i + 1))) (v := .int .i64 (i + 1)) (congrArg (Value.int .i64) (IntWalk.i64_in _ (by omega))) (k := ?_)
                refine WL.op (d := 10) (.int .i64 (i + 1)) (k := ?_)
                refine WL.nil ?_
                refine WX.rw (t := 9) (v := .bool true) (congrArg Value.bool h174) (k := ?_)
                have pp211 : ((posR rows o.task.id) : Int) < i := (of_decide_eq_true (ip.symm.trans h174))
                have e212 : insU rows (⟨o.task, o.sv⟩ : GRow) (posR rows o.task.id) i ++ [r185] = insU rows (⟨o.task, o.sv⟩ : GRow) (posR rows o.task.id) (i + 1) := insU_after i0 hr186 pp211
                rw [e212] at ho204
                rw [e212] at hb209
                refine WX.round (i + 1, true, A201, c202) (by show (rows.length - (i + 1)).toNat < (rows.length - i).toNat; omega) ⟨(by kernel_rfl), (by kernel_rfl), (by kernel_rfl), (by kernel_rfl), (by kernel_rfl), (by kernel_rfl), (by kernel_rfl), (by kernel_rfl), (by kernel_rfl), (by kernel_rfl), (by kernel_rfl), (by kernel_rfl), (by kernel_rfl), (by kernel_rfl), (by kernel_rfl), (by kernel_rfl), (by kernel_rfl), (by kernel_rfl), (by kernel_rfl), (by kernel_rfl), (by kernel_rfl), (by kernel_rfl), (by kernel_rfl), (by kernel_rfl), (by kernel_rfl), (by kernel_rfl), (by kernel_rfl), (by kernel_rfl), (by kernel_rfl), (by kernel_rfl), (by kernel_rfl), (by kernel_rfl), (by kernel_rfl), (by kernel_rfl), (by kernel_rfl), (by kernel_rfl), (by kernel_rfl), (by kernel_rfl), trivial⟩ ⟨K, hb63, hb64, hb65, hb209, ho204, ol207, (by omega), (by omega), (by rw [decide_eq_true] <;> omega)⟩
            · have ph69 := of_decide_eq_false h69
              refine WC.exit ?_
              refine WX.seqE ?_
              refine WX.seqE ?_
              refine WX.blockE ?_
              refine WX.seqN ?_
              refine WC.seq ?_
              refine WC.seq ?_
              refine WC.region ?_
              refine WL.op (d := 85) (.bool put) (k := ?_)
              refine WL.op (d := 86) (.bool (!(put))) (k := ?_)
              refine WL.nil ?_
              refine WX.seqN ?_
              refine WC.cond (b := !(put)) (ht := fun h213 => ?_) (hf := fun h213 => ?_)
              · have h214 : (put) = false := by simpa using h213
                refine WC.region ?_
                refine WL.op (d := 87) (.pointer (some ⟨b38, 0, none⟩)) (k := ?_)
                refine WL.load (v := .slice Ao ((insU rows (⟨o.task, o.sv⟩ : GRow) (posR rows o.task.id) i).length) co) (ld1 (T := 22) (i := 0) hb66) (k := ?_)
                refine WL.op (d := 89) (.pointer (some ⟨b7, 1, none⟩)) (k := ?_)
                refine WL.load (v := GTask.val o.task) (ldN (T := 44) (i := 1) (m := 5) (l := (Value.cells (GTask.val o.task)).toList) hb64) (k := ?_)
                refine WL.op (d := 91) (.pointer (some ⟨b7, 6, none⟩)) (k := ?_)
                refine WL.load (v := .bool o.sv) (ld1 (T := 4) (i := 6) hb64) (k := ?_)
                refine WL.op (d := 93) (.agg #[.int .i64 o.task.id, .int .i64 o.task.c, .int .i64 o.task.d, .int .i64 o.task.t, .int .i64 o.task.m, .bool o.sv]) (k := ?_)
                refine WL.newF (d := 94) (T := 53) #[.int .i64 o.task.id, .int .i64 o.task.c, .int .i64 o.task.d, .int .i64 o.task.t, .int .i64 o.task.m, .bool o.sv] (fun b => .slice (some ⟨b, 0, none⟩) 1 1) (k := fun b215 w216 g217 hb218 k219 => ?_)
                have z220 := Nat.le_trans K.size g217
                have n221 : b1 ≠ b215 := Nat.ne_of_lt (Nat.lt_of_lt_of_le (lt_of_heap hb63) g217)
                have n222 : b7 ≠ b215 := Nat.ne_of_lt (Nat.lt_of_lt_of_le (lt_of_heap hb64) g217)
                have n223 : b14 ≠ b215 := Nat.ne_of_lt (Nat.lt_of_lt_of_le (lt_of_heap hb65) g217)
                have n224 : b38 ≠ b215 := Nat.ne_of_lt (Nat.lt_of_lt_of_le (lt_of_heap hb66) g217)
                have n225 := OwAt.off_new hb67 g217
                replace hb63 := k219.heap hb63 id
                replace hb64 := k219.heap hb64 id
                replace hb65 := k219.heap hb65 id
                replace hb66 := k219.heap hb66 id
                replace hb67 := hb67.adds k219
                replace K := K.trans (k219.any _)
                refine WL.append (d := 95) (T := 22) (cl := rowC) (xs := insU rows (⟨o.task, o.sv⟩ : GRow) (posR rows o.task.id) i) (ys := [(⟨o.task, o.sv⟩ : GRow)]) (c := 1) ekRow hb67 (SlAt.of_lit (ys := [(⟨o.task, o.sv⟩ : GRow)]) ekRow hb218 (by kernel_rfl)) (by first | omega | (simp; omega) | (have hz_ := insU_len rows (⟨o.task, o.sv⟩ : GRow) (posR rows o.task.id) i; simp; omega)) (k := fun A226 c227 w228 ho229 k230 n231 => ?_)
                have ol232 := olink_step ol68 K n231
                replace hb63 := k230.heap hb63 (hb67.offT hb63 (by decide))
                replace hb64 := k230.heap hb64 (hb67.offT hb64 (by decide))
                replace hb65 := k230.heap hb65 (hb67.offT hb65 (by decide))
                replace hb66 := k230.heap hb66 (hb67.offT hb66 (by decide))
                replace K := K.trans' k230 (fun i hi e => absurd hi (Nat.not_lt.2 (ol68 i e)))
                clear hb67
                refine WL.op (d := 96) (.pointer (some ⟨b38, 0, none⟩)) (k := ?_)
                refine WL.store (v := .slice A226 ((insU rows (⟨o.task, o.sv⟩ : GRow) (posR rows o.task.id) i ++ [(⟨o.task, o.sv⟩ : GRow)]).length) c227) (i := 0) (cs' := #[.slice A226 ((insU rows (⟨o.task, o.sv⟩ : GRow) (posR rows o.task.id) i ++ [(⟨o.task, o.sv⟩ : GRow)]).length) c227, .int .i64 md]) hb66 (k := fun w233 hb234 k235 => ?_)
                replace hb63 := k235.heap hb63 n44
                replace hb64 := k235.heap hb64 n45
                replace hb65 := k235.heap hb65 n46
                replace ho229 := ho229.keeps k235 (fun i hi e => (ho229.offT hb66 (by decide)) (e ▸ hi))
                replace K := K.trans' k235 (fun i hi e => absurd (e ▸ hi) (Nat.not_lt.2 z43))
                clear hb66
                refine WL.nil ?_
                refine WX.seqN ?_
                refine WC.seq ?_
                refine WC.region ?_
                refine WL.load (v := .agg #[.slice A226 ((insU rows (⟨o.task, o.sv⟩ : GRow) (posR rows o.task.id) i ++ [(⟨o.task, o.sv⟩ : GRow)]).length) c227, .int .i64 md]) (ldN (T := 24) (i := 0) (m := 2) (l := [.slice A226 ((insU rows (⟨o.task, o.sv⟩ : GRow) (posR rows o.task.id) i ++ [(⟨o.task, o.sv⟩ : GRow)]).length) c227, .int .i64 md]) hb234) (k := ?_)
                refine WL.store (v := .agg #[.slice A226 ((insU rows (⟨o.task, o.sv⟩ : GRow) (posR rows o.task.id) i ++ [(⟨o.task, o.sv⟩ : GRow)]).length) c227, .int .i64 md]) (i := 0) (cs' := #[.slice A226 ((insU rows (⟨o.task, o.sv⟩ : GRow) (posR rows o.task.id) i ++ [(⟨o.task, o.sv⟩ : GRow)]).length) c227, .int .i64 md]) hb65 (k := fun w236 hb237 k238 => ?_)
                replace hb63 := k238.heap hb63 n20
                replace hb64 := k238.heap hb64 n21
                replace hb234 := k238.heap hb234 (Ne.symm n46)
                replace ho229 := ho229.keeps k238 (fun i hi e => (ho229.offT hb65 (by decide)) (e ▸ hi))
                replace K := K.trans' k238 (fun i hi e => absurd (e ▸ hi) (Nat.not_lt.2 z19))
                clear hb65
                refine WL.op (d := 5) (.int .i64 0) (k := ?_)
                refine WL.nil ?_
                refine WX.seqN ?_
                refine WC.ret ?_
                refine WX.blockR ?_
                refine WX.seqR ?_
                refine WX.ret (rs := [.cell 4 24, .tmp 5]) [.agg #[.slice A226 ((insU rows (⟨o.task, o.sv⟩ : GRow) (posR rows o.task.id) i ++ [(⟨o.task, o.sv⟩ : GRow)]).length) c227, .int .i64 md], .int .i64 0] (.tuple #[.agg #[.slice A226 ((insU rows (⟨o.task, o.sv⟩ : GRow) (posR rows o.task.id) i ++ [(⟨o.task, o.sv⟩ : GRow)]).length) c227, .int .i64 md], .int .i64 0]) ⟨⟨_, (by kernel_rfl), ldN (T := 24) (i := 0) (m := 2) (l := [.slice A226 ((insU rows (⟨o.task, o.sv⟩ : GRow) (posR rows o.task.id) i ++ [(⟨o.task, o.sv⟩ : GRow)]).length) c227, .int .i64 md]) hb237⟩, (by kernel_rfl), trivial⟩ (k := ?_)
                have g_ := has_neg (Int.not_le.1 ph53)
                exact TabRes.mk (by rw [insU_last (by omega) (of_decide_eq_false (ip.symm.trans h214)) (pos_le _ _)]; simp [applyT, admitT, GTable.zero, h26, h31, h32, h37, h50, h53, h57, h69, h213, ph37, ph50, ph53, ph57, ph69, g_]) rfl ho229 K ol232
              · have h239 : (put) = true := by simpa using h213
                refine WC.skip ?_
                refine WX.seqN ?_
                refine WC.seq ?_
                refine WC.region ?_
                refine WL.load (v := .agg #[.slice Ao ((insU rows (⟨o.task, o.sv⟩ : GRow) (posR rows o.task.id) i).length) co, .int .i64 md]) (ldN (T := 24) (i := 0) (m := 2) (l := [.slice Ao ((insU rows (⟨o.task, o.sv⟩ : GRow) (posR rows o.task.id) i).length) co, .int .i64 md]) hb66) (k := ?_)
                refine WL.store (v := .agg #[.slice Ao ((insU rows (⟨o.task, o.sv⟩ : GRow) (posR rows o.task.id) i).length) co, .int .i64 md]) (i := 0) (cs' := #[.slice Ao ((insU rows (⟨o.task, o.sv⟩ : GRow) (posR rows o.task.id) i).length) co, .int .i64 md]) hb65 (k := fun w240 hb241 k242 => ?_)
                replace hb63 := k242.heap hb63 n20
                replace hb64 := k242.heap hb64 n21
                replace hb66 := k242.heap hb66 (Ne.symm n46)
                replace hb67 := hb67.keeps k242 (fun i hi e => (hb67.offT hb65 (by decide)) (e ▸ hi))
                replace K := K.trans' k242 (fun i hi e => absurd (e ▸ hi) (Nat.not_lt.2 z19))
                clear hb65
                refine WL.op (d := 5) (.int .i64 0) (k := ?_)
                refine WL.nil ?_
                refine WX.seqN ?_
                refine WC.ret ?_
                refine WX.blockR ?_
                refine WX.seqR ?_
                refine WX.ret (rs := [.cell 4 24, .tmp 5]) [.agg #[.slice Ao ((insU rows (⟨o.task, o.sv⟩ : GRow) (posR rows o.task.id) i).length) co, .int .i64 md], .int .i64 0] (.tuple #[.agg #[.slice Ao ((insU rows (⟨o.task, o.sv⟩ : GRow) (posR rows o.task.id) i).length) co, .int .i64 md], .int .i64 0]) ⟨⟨_, (by kernel_rfl), ldN (T := 24) (i := 0) (m := 2) (l := [.slice Ao ((insU rows (⟨o.task, o.sv⟩ : GRow) (posR rows o.task.id) i).length) co, .int .i64 md]) hb241⟩, (by kernel_rfl), trivial⟩ (k := ?_)
                have g_ := has_neg (Int.not_le.1 ph53)
                exact TabRes.mk (by rw [insU_end (by omega) (of_decide_eq_true (ip.symm.trans h239)) (pos_le _ _)]; simp [applyT, admitT, GTable.zero, h26, h31, h32, h37, h50, h53, h57, h69, h213, ph37, ph50, ph53, ph57, ph69, g_]) rfl hb67 K ol68
      · have ph50 := ne_of_beq_false h50
        refine WC.seq ?_
        refine WC.region ?_
        refine WL.op (d := 99) (.bool (o.kind == 4)) (k := ?_)
        refine WL.op (d := 98) (.bool (o.kind == 4)) (k := ?_)
        refine WL.nil ?_
        refine WX.seqN ?_
        refine WC.cond (b := o.kind == 4) (ht := fun h243 => ?_) (hf := fun h243 => ?_)
        · have ph243 := eq_of_beq h243
          refine WC.seq ?_
          refine WC.region ?_
          refine WL.op (d := 100) (.pointer (some ⟨b38, 0, none⟩)) (k := ?_)
          refine WL.load (v := .slice none 0 0) (ld1 (T := 22) (i := 0) hb48) (k := ?_)
          refine WL.op (d := 102) (.pointer (some ⟨b1, 0, none⟩)) (k := ?_)
          refine WL.load (v := .slice A rows.length cp) (ld1 (T := 22) (i := 0) hb4) (k := ?_)
          refine WL.append (d := 104) (T := 22) (cl := rowC) (xs := []) (ys := rows) (c := cp) ekRow OwAt.nil (hA.adds K) (by first | omega | (simp; omega) | (have hz_ := insU_len rows (⟨o.task, o.sv⟩ : GRow) (posR rows o.task.id) i; simp; omega)) (k := fun A244 c245 w246 ho247 k248 n249 => ?_)
          have ol250 := olink_step (by simp [blk]) K n249
          replace k248 := adds_nil k248
          replace hb4 := k248.heap hb4 id
          replace hb10 := k248.heap hb10 id
          replace hb17 := k248.heap hb17 id
          replace hb48 := k248.heap hb48 id
          replace K := K.trans (k248.any _)
          refine WL.op (d := 105) (.pointer (some ⟨b38, 0, none⟩)) (k := ?_)
          refine WL.store (v := .slice A244 (([] ++ rows).length) c245) (i := 0) (cs' := #[.slice A244 (([] ++ rows).length) c245, .int .i64 md]) hb48 (k := fun w251 hb252 k253 => ?_)
          replace hb4 := k253.heap hb4 n44
          replace hb10 := k253.heap hb10 n45
          replace hb17 := k253.heap hb17 n46
          replace ho247 := ho247.keeps k253 (fun i hi e => (ho247.offT hb48 (by decide)) (e ▸ hi))
          replace K := K.trans' k253 (fun i hi e => absurd (e ▸ hi) (Nat.not_lt.2 z43))
          clear hb48
          refine WL.nil ?_
          refine WX.seqN ?_
          refine WC.seq ?_
          refine WC.region ?_
          refine WL.op (d := 106) (.pointer (some ⟨b7, 9, none⟩)) (k := ?_)
          refine WL.load (v := .int .i64 o.m) (ld1 (T := 3) (i := 9) hb10) (k := ?_)
          refine WL.op (d := 108) (.pointer (some ⟨b38, 1, none⟩)) (k := ?_)
          refine WL.store (v := .int .i64 o.m) (i := 1) (cs' := #[.slice A244 (([] ++ rows).length) c245, .int .i64 o.m]) hb252 (k := fun w254 hb255 k256 => ?_)
          replace hb4 := k256.heap hb4 n44
          replace hb10 := k256.heap hb10 n45
          replace hb17 := k256.heap hb17 n46
          replace ho247 := ho247.keeps k256 (fun i hi e => (ho247.offT hb252 (by decide)) (e ▸ hi))
          replace K := K.trans' k256 (fun i hi e => absurd (e ▸ hi) (Nat.not_lt.2 z43))
          clear hb252
          refine WL.nil ?_
          refine WX.seqN ?_
          refine WC.seq ?_
          refine WC.region ?_
          refine WL.load (v := .agg #[.slice A244 (([] ++ rows).length) c245, .int .i64 o.m]) (ldN (T := 24) (i := 0) (m := 2) (l := [.slice A244 (([] ++ rows).length) c245, .int .i64 o.m]) hb255) (k := ?_)
          refine WL.store (v := .agg #[.slice A244 (([] ++ rows).length) c245, .int .i64 o.m]) (i := 0) (cs' := #[.slice A244 (([] ++ rows).length) c245, .int .i64 o.m]) hb17 (k := fun w257 hb258 k259 => ?_)
          replace hb4 := k259.heap hb4 n20
          replace hb10 := k259.heap hb10 n21
          replace hb255 := k259.heap hb255 (Ne.symm n46)
          replace ho247 := ho247.keeps k259 (fun i hi e => (ho247.offT hb17 (by decide)) (e ▸ hi))
          replace K := K.trans' k259 (fun i hi e => absurd (e ▸ hi) (Nat.not_lt.2 z19))
          clear hb17
          refine WL.op (d := 5) (.int .i64 0) (k := ?_)
          refine WL.nil ?_
          refine WX.seqN ?_
          refine WC.ret ?_
          refine WX.blockR ?_
          refine WX.seqR ?_
          refine WX.ret (rs := [.cell 4 24, .tmp 5]) [.agg #[.slice A244 (([] ++ rows).length) c245, .int .i64 o.m], .int .i64 0] (.tuple #[.agg #[.slice A244 (([] ++ rows).length) c245, .int .i64 o.m], .int .i64 0]) ⟨⟨_, (by kernel_rfl), ldN (T := 24) (i := 0) (m := 2) (l := [.slice A244 (([] ++ rows).length) c245, .int .i64 o.m]) hb258⟩, (by kernel_rfl), trivial⟩ (k := ?_)
          have hs := upTo_sorted ph31.1
          exact TabRes.mk (by simp [applyT, admitT, GTable.zero, h26, h31, h32, h37, h50, h243, ph37, ph50, ph243]) rfl ho247 K ol250
        · have ph243 := ne_of_beq_false h243
          refine WC.skip ?_
          refine WX.blockN ?_
          refine WX.seqN ?_
          refine WC.seq ?_
          refine WC.region ?_
          refine WL.load (v := .agg #[.slice A rows.length cp, .int .i64 md]) (ldN (T := 24) (i := 0) (m := 2) (l := [.slice A rows.length cp, .int .i64 md]) hb4) (k := ?_)
          refine WL.op (d := 111) (.pointer (some ⟨b7, 7, none⟩)) (k := ?_)
          refine WL.load (v := .int .i64 o.id) (ld1 (T := 3) (i := 7) hb10) (k := ?_)
          refine WL.callG (d := 113) (f := 87) (args := #[.agg #[.slice A rows.length cp, .int .i64 md], .int .i64 o.id]) (u14at_c (hA.adds K) (by omega) md o.id) (k := fun e_ w260 h_ => ⟨.int .i64 (idxR rows o.id), h_.1, ?_⟩)
          have k261 := h_.2; clear h_
          replace hb4 := k261.heap hb4 id
          replace hb10 := k261.heap hb10 id
          replace hb17 := k261.heap hb17 id
          replace hb48 := k261.heap hb48 id
          replace K := K.trans (k261.any _)
          refine WL.op (d := 11) (.int .i64 (idxR rows o.id)) (k := ?_)
          refine WL.nil ?_
          refine WX.seqN ?_
          refine WC.seq ?_
          refine WC.seq ?_
          refine WC.region ?_
          refine WL.op (d := 114) (.int .i64 (idxR rows o.id)) (k := ?_)
          refine WL.op (d := 115) (.bool (decide ((idxR rows o.id) < 0))) (k := ?_)
          refine WL.nil ?_
          refine WX.seqN ?_
          refine WC.cond (b := decide ((idxR rows o.id) < 0)) (ht := fun h262 => ?_) (hf := fun h262 => ?_)
          · have ph262 := of_decide_eq_true h262
            refine WC.seq ?_
            refine WC.region ?_
            refine WL.op (d := 116) (.agg #[.slice none 0 0, .int .i64 0]) (k := ?_)
            refine WL.store (v := .agg #[.slice none 0 0, .int .i64 0]) (i := 0) (cs' := #[.slice none 0 0, .int .i64 0]) hb17 (k := fun w263 hb264 k265 => ?_)
            replace hb4 := k265.heap hb4 n20
            replace hb10 := k265.heap hb10 n21
            replace hb48 := k265.heap hb48 (Ne.symm n46)
            replace K := K.trans' k265 (fun i hi e => absurd (e ▸ hi) (Nat.not_lt.2 z19))
            clear hb17
            refine WL.op (d := 5) (.int .i64 12) (k := ?_)
            refine WL.nil ?_
            refine WX.seqN ?_
            refine WC.ret ?_
            refine WX.seqR ?_
            refine WX.ret (rs := [.cell 4 24, .tmp 5]) [.agg #[.slice none 0 0, .int .i64 0], .int .i64 12] (.tuple #[.agg #[.slice none 0 0, .int .i64 0], .int .i64 12]) ⟨⟨_, (by kernel_rfl), ldN (T := 24) (i := 0) (m := 2) (l := [.slice none 0 0, .int .i64 0]) hb264⟩, (by kernel_rfl), trivial⟩ (k := ?_)
            have hs := upTo_sorted ph31.1
            have g_ := has_neg ph262
            exact TabRes.nil (by simp [applyT, admitT, GTable.zero, h26, h31, h32, h37, h50, h243, h262, ph37, ph50, ph243, ph262, g_]) rfl K
          · have ph262 := of_decide_eq_false h262
            refine WC.skip ?_
            refine WX.seqN ?_
            refine WC.seq ?_
            refine WC.mixed (fun _ => False) 8 (k := fun w266 k267 => ?_)
            replace hb4 := k267.heap hb4 id
            replace hb10 := k267.heap hb10 id
            replace hb17 := k267.heap hb17 id
            replace hb48 := k267.heap hb48 id
            replace K := K.trans (k267.any _)
            have KC := Keeps.refl (fun _ => False) w266
            have bh268 := hb4
            have bh269 := hb10
            have bh270 := hb17
            have bh271 := hb48
            have Kb := K
            refine WA.quiet 0 (d := 117) (.pointer (some ⟨b38, 0, none⟩)) KC (hi := rfl) (k := ?_)
            refine WA.quietR 1 (d := 118) (.slice none 0 0) KC (exec_load (fun w_ k_ => ld1 (T := 22) (i := 0) (k_.heap bh271 id))) (hi := rfl) (k := ?_)
            refine WA.quiet 2 (d := 119) (.pointer (some ⟨b1, 0, none⟩)) KC (hi := rfl) (k := ?_)
            refine WA.quietR 3 (d := 120) (.slice A rows.length cp) KC (exec_load (fun w_ k_ => ld1 (T := 22) (i := 0) (k_.heap bh268 id))) (hi := rfl) (k := ?_)
            refine WA.quiet 4 (d := 121) (.int .i64 (idxR rows o.id)) KC (hi := rfl) (k := ?_)
            have hs272 := SlAt.cutT (b := (idxR rows o.id).toNat) (c := cp) hA (by omega) (by omega)
            refine WA.quietR 5 (d := 122) (.slice A ((List.take ((idxR rows o.id).toNat) rows).length) cp) KC (exec_cut (vx := .slice A rows.length cp) (lo' := none) (hi' := (some (.int .i64 (idxR rows o.id)))) (mx' := none) (fun _ => run_cutSl (a := 0) (b := (idxR rows o.id).toNat) (c := cp) (m := 6) (E := 53) (by kernel_rfl) (by kernel_rfl) (.inl ⟨rfl, rfl⟩) (.inr ⟨_, _, rfl, by omega⟩) (.inl ⟨rfl, rfl⟩) (by omega) (by omega) (cutA_zero _ _ _) (by simp <;> omega) (by omega))) (hi := rfl) (k := ?_)
            refine WA.step 6 (hi := rfl) (k := ?_)
            refine WL.append (d := 123) (T := 22) (cl := rowC) (xs := []) (ys := List.take ((idxR rows o.id).toNat) rows) (c := cp) ekRow OwAt.nil (hs272.adds K) (by first | omega | (simp; omega) | (have hz_ := insU_len rows (⟨o.task, o.sv⟩ : GRow) (posR rows o.task.id) i; simp; omega)) (k := fun A273 c274 w275 ho276 k277 n278 => ?_)
            have ol279 := olink_step (by simp [blk]) K n278
            replace k277 := adds_nil k277
            replace hb4 := k277.heap hb4 id
            replace hb10 := k277.heap hb10 id
            replace hb17 := k277.heap hb17 id
            replace hb48 := k277.heap hb48 id
            replace K := K.trans (k277.any _)
            replace KC := KC.trans (k277.any _)
            refine WL.nil ?_
            refine WX.nxt KC ?_
            refine WA.quiet 7 (d := 124) (.pointer (some ⟨b38, 0, none⟩)) KC (hi := rfl) (k := ?_)
            refine WA.step 8 (hi := rfl) (k := ?_)
            refine WL.store (v := .slice A273 (([] ++ (List.take ((idxR rows o.id).toNat) rows)).length) c274) (i := 0) (cs' := #[.slice A273 (([] ++ (List.take ((idxR rows o.id).toNat) rows)).length) c274, .int .i64 md]) hb48 (k := fun w280 hb281 k282 => ?_)
            replace hb4 := k282.heap hb4 n44
            replace hb10 := k282.heap hb10 n45
            replace hb17 := k282.heap hb17 n46
            replace ho276 := ho276.keeps k282 (fun i hi e => (ho276.offT hb48 (by decide)) (e ▸ hi))
            replace K := K.trans' k282 (fun i hi e => absurd (e ▸ hi) (Nat.not_lt.2 z43))
            clear hb48
            refine WL.nil ?_
            refine WX.nxtL ?_
            refine WA.done (k := ?_)
            clear KC
            refine WX.seqN ?_
            refine WC.seq ?_
            refine WC.seq ?_
            refine WC.region ?_
            refine WL.op (d := 125) (.pointer (some ⟨b7, 0, none⟩)) (k := ?_)
            refine WL.load (v := .int .i64 o.kind) (ld1 (T := 3) (i := 0) hb10) (k := ?_)
            refine WL.op (d := 127) (.bool (o.kind == 3)) (k := ?_)
            refine WL.nil ?_
            refine WX.seqN ?_
            refine WC.cond (b := o.kind == 3) (ht := fun h283 => ?_) (hf := fun h283 => ?_)
            · have ph283 := eq_of_beq h283
              refine WC.seq ?_
              refine WC.region ?_
              refine WL.op (d := 128) (.pointer (some ⟨b1, 0, none⟩)) (k := ?_)
              refine WL.load (v := .slice A rows.length cp) (ld1 (T := 22) (i := 0) hb4) (k := ?_)
              refine WL.op (d := 130) (.int .i64 (idxR rows o.id)) (k := ?_)
              obtain ⟨b284, o285, r286, hr287, hA288, he289⟩ := SlAt.at hA (i := idxR rows o.id) (by omega) (by omega)
              refine WL.rw (t := 129) (v := .slice (some ⟨b284, o285, none⟩) rows.length cp) (congrArg (fun a => Value.slice a rows.length cp) hA288) (k := ?_)
              refine WL.idx (T := 22) (E := 53) (m := 6) (b := b284) (o := o285) (len := rows.length) (cap := cp) (i := idxR rows o.id) (kk := .i64) (d := 131) (by omega) (by omega) (k := ?_)
              refine WL.rw (t := 129) (v := .slice A rows.length cp) (congrArg (fun a => Value.slice a rows.length cp) (Eq.symm hA288)) (k := ?_)
              refine WL.load (v := GRow.val r286) ((he289.adds K).ldW (T := 53)) (k := ?_)
              refine WL.new (d := 12) (T := 53) #[.int .i64 0, .int .i64 0, .int .i64 0, .int .i64 0, .int .i64 0, .bool false] (k := fun b290 w291 g292 hb293 k294 => ?_)
              have z295 := Nat.le_trans K.size g292
              have n296 : b1 ≠ b290 := Nat.ne_of_lt (Nat.lt_of_lt_of_le (lt_of_heap hb4) g292)
              have n297 : b7 ≠ b290 := Nat.ne_of_lt (Nat.lt_of_lt_of_le (lt_of_heap hb10) g292)
              have n298 : b14 ≠ b290 := Nat.ne_of_lt (Nat.lt_of_lt_of_le (lt_of_heap hb17) g292)
              have n299 : b38 ≠ b290 := Nat.ne_of_lt (Nat.lt_of_lt_of_le (lt_of_heap hb281) g292)
              have n300 := OwAt.off_new ho276 g292
              replace hb4 := k294.heap hb4 id
              replace hb10 := k294.heap hb10 id
              replace hb17 := k294.heap hb17 id
              replace hb281 := k294.heap hb281 id
              replace ho276 := ho276.adds k294
              replace K := K.trans (k294.any _)
              refine WL.store (v := GRow.val r286) (i := 0) (cs' := (Value.cells (GRow.val r286))) hb293 (k := fun w301 hb302 k303 => ?_)
              replace hb4 := k303.heap hb4 n296
              replace hb10 := k303.heap hb10 n297
              replace hb17 := k303.heap hb17 n298
              replace hb281 := k303.heap hb281 n299
              replace ho276 := ho276.keeps k303 (fun i hi e => (n300) (e ▸ hi))
              replace K := K.trans' k303 (fun i hi e => absurd (e ▸ hi) (Nat.not_lt.2 z295))
              clear hb293
              refine WL.nil ?_
              refine WX.seqN ?_
              refine WC.seq ?_
              refine WC.seq ?_
              refine WC.region ?_
              refine WL.op (d := 133) (.pointer (some ⟨b7, 8, none⟩)) (k := ?_)
              refine WL.load (v := .int .i64 o.c) (ld1 (T := 2) (i := 8) hb10) (k := ?_)
              refine WL.op (d := 135) (.pointer (some ⟨b290, 0, none⟩)) (k := ?_)
              refine WL.op (d := 136) (.pointer (some ⟨b290, 2, none⟩)) (k := ?_)
              refine WL.load (v := .int .i64 r286.task.d) (ld1 (T := 2) (i := 2) hb302) (k := ?_)
              refine WL.op (d := 138) (.bool (decide (o.c > r286.task.d))) (k := ?_)
              refine WL.nil ?_
              refine WX.seqN ?_
              refine WC.cond (b := decide (o.c > r286.task.d)) (ht := fun h304 => ?_) (hf := fun h304 => ?_)
              · have ph304 := of_decide_eq_true h304
                refine WC.seq ?_
                refine WC.region ?_
                refine WL.op (d := 139) (.agg #[.slice none 0 0, .int .i64 0]) (k := ?_)
                refine WL.store (v := .agg #[.slice none 0 0, .int .i64 0]) (i := 0) (cs' := #[.slice none 0 0, .int .i64 0]) hb17 (k := fun w305 hb306 k307 => ?_)
                replace hb4 := k307.heap hb4 n20
                replace hb10 := k307.heap hb10 n21
                replace hb281 := k307.heap hb281 (Ne.symm n46)
                replace ho276 := ho276.keeps k307 (fun i hi e => (ho276.offT hb17 (by decide)) (e ▸ hi))
                replace hb302 := k307.heap hb302 (Ne.symm n298)
                replace K := K.trans' k307 (fun i hi e => absurd (e ▸ hi) (Nat.not_lt.2 z19))
                clear hb17
                refine WL.op (d := 5) (.int .i64 1) (k := ?_)
                refine WL.nil ?_
                refine WX.seqN ?_
                refine WC.ret ?_
                refine WX.seqR ?_
                refine WX.seqR ?_
                refine WX.ret (rs := [.cell 4 24, .tmp 5]) [.agg #[.slice none 0 0, .int .i64 0], .int .i64 1] (.tuple #[.agg #[.slice none 0 0, .int .i64 0], .int .i64 1]) ⟨⟨_, (by kernel_rfl), ldN (T := 24) (i := 0) (m := 2) (l := [.slice none 0 0, .int .i64 0]) hb306⟩, (by kernel_rfl), trivial⟩ (k := ?_)
                have hs := upTo_sorted ph31.1
                have f_ := has_idx hs (Int.not_lt.1 ph262)
                have hr_ := hr287
                rw [← f_.2] at hr_
                simp only [Int.toNat_natCast] at hr_
                exact TabRes.nil (by simp [applyT, admitT, GTable.zero, h26, h31, h32, h37, h50, h243, h262, h283, h304, ph37, ph50, ph243, ph262, ph283, ph304, f_.1, hr_]) rfl K
              · have ph304 := of_decide_eq_false h304
                refine WC.skip ?_
                refine WX.seqN ?_
                refine WC.seq ?_
                refine WC.region ?_
                refine WL.op (d := 140) (.pointer (some ⟨b7, 8, none⟩)) (k := ?_)
                refine WL.load (v := .int .i64 o.c) (ld1 (T := 2) (i := 8) hb10) (k := ?_)
                refine WL.op (d := 142) (.pointer (some ⟨b290, 0, none⟩)) (k := ?_)
                refine WL.op (d := 143) (.pointer (some ⟨b290, 1, none⟩)) (k := ?_)
                refine WL.store (v := .int .i64 o.c) (i := 1) (cs' := #[.int .i64 r286.task.id, .int .i64 o.c, .int .i64 r286.task.d, .int .i64 r286.task.t, .int .i64 r286.task.m, .bool r286.sv]) hb302 (k := fun w308 hb309 k310 => ?_)
                replace hb4 := k310.heap hb4 n296
                replace hb10 := k310.heap hb10 n297
                replace hb17 := k310.heap hb17 n298
                replace hb281 := k310.heap hb281 n299
                replace ho276 := ho276.keeps k310 (fun i hi e => (n300) (e ▸ hi))
                replace K := K.trans' k310 (fun i hi e => absurd (e ▸ hi) (Nat.not_lt.2 z295))
                clear hb302
                refine WL.nil ?_
                refine WX.seqN ?_
                refine WC.region ?_
                refine WL.op (d := 144) (.pointer (some ⟨b38, 0, none⟩)) (k := ?_)
                refine WL.load (v := .slice A273 (([] ++ (List.take ((idxR rows o.id).toNat) rows)).length) c274) (ld1 (T := 22) (i := 0) hb281) (k := ?_)
                refine WL.load (v := .agg #[.int .i64 r286.task.id, .int .i64 o.c, .int .i64 r286.task.d, .int .i64 r286.task.t, .int .i64 r286.task.m, .bool r286.sv]) (ldN (T := 53) (i := 0) (m := 6) (l := [.int .i64 r286.task.id, .int .i64 o.c, .int .i64 r286.task.d, .int .i64 r286.task.t, .int .i64 r286.task.m, .bool r286.sv]) hb309) (k := ?_)
                refine WL.newF (d := 147) (T := 53) #[.int .i64 r286.task.id, .int .i64 o.c, .int .i64 r286.task.d, .int .i64 r286.task.t, .int .i64 r286.task.m, .bool r286.sv] (fun b => .slice (some ⟨b, 0, none⟩) 1 1) (k := fun b311 w312 g313 hb314 k315 => ?_)
                have z316 := Nat.le_trans K.size g313
                have n317 : b1 ≠ b311 := Nat.ne_of_lt (Nat.lt_of_lt_of_le (lt_of_heap hb4) g313)
                have n318 : b7 ≠ b311 := Nat.ne_of_lt (Nat.lt_of_lt_of_le (lt_of_heap hb10) g313)
                have n319 : b14 ≠ b311 := Nat.ne_of_lt (Nat.lt_of_lt_of_le (lt_of_heap hb17) g313)
                have n320 : b38 ≠ b311 := Nat.ne_of_lt (Nat.lt_of_lt_of_le (lt_of_heap hb281) g313)
                have n321 := OwAt.off_new ho276 g313
                have n322 : b290 ≠ b311 := Nat.ne_of_lt (Nat.lt_of_lt_of_le (lt_of_heap hb309) g313)
                replace hb4 := k315.heap hb4 id
                replace hb10 := k315.heap hb10 id
                replace hb17 := k315.heap hb17 id
                replace hb281 := k315.heap hb281 id
                replace ho276 := ho276.adds k315
                replace hb309 := k315.heap hb309 id
                replace K := K.trans (k315.any _)
                refine WL.append (d := 148) (T := 22) (cl := rowC) (xs := [] ++ (List.take ((idxR rows o.id).toNat) rows)) (ys := [(⟨⟨r286.task.id, o.c, r286.task.d, r286.task.t, r286.task.m⟩, r286.sv⟩ : GRow)]) (c := 1) ekRow ho276 (SlAt.of_lit (ys := [(⟨⟨r286.task.id, o.c, r286.task.d, r286.task.t, r286.task.m⟩, r286.sv⟩ : GRow)]) ekRow hb314 (by kernel_rfl)) (by first | omega | (simp; omega) | (have hz_ := insU_len rows (⟨o.task, o.sv⟩ : GRow) (posR rows o.task.id) i; simp; omega)) (k := fun A323 c324 w325 ho326 k327 n328 => ?_)
                have ol329 := olink_step ol279 K n328
                have n330 := off_step n328 n300 (lt_of_heap hb309)
                replace hb4 := k327.heap hb4 (ho276.offT hb4 (by decide))
                replace hb10 := k327.heap hb10 (ho276.offT hb10 (by decide))
                replace hb17 := k327.heap hb17 (ho276.offT hb17 (by decide))
                replace hb281 := k327.heap hb281 (ho276.offT hb281 (by decide))
                replace hb309 := k327.heap hb309 n300
                replace K := K.trans' k327 (fun i hi e => absurd hi (Nat.not_lt.2 (ol279 i e)))
                clear ho276
                refine WL.op (d := 149) (.pointer (some ⟨b38, 0, none⟩)) (k := ?_)
                refine WL.store (v := .slice A323 (([] ++ (List.take ((idxR rows o.id).toNat) rows) ++ [(⟨⟨r286.task.id, o.c, r286.task.d, r286.task.t, r286.task.m⟩, r286.sv⟩ : GRow)]).length) c324) (i := 0) (cs' := #[.slice A323 (([] ++ (List.take ((idxR rows o.id).toNat) rows) ++ [(⟨⟨r286.task.id, o.c, r286.task.d, r286.task.t, r286.task.m⟩, r286.sv⟩ : GRow)]).length) c324, .int .i64 md]) hb281 (k := fun w331 hb332 k333 => ?_)
                replace hb4 := k333.heap hb4 n44
                replace hb10 := k333.heap hb10 n45
                replace hb17 := k333.heap hb17 n46
                replace ho326 := ho326.keeps k333 (fun i hi e => (ho326.offT hb281 (by decide)) (e ▸ hi))
                replace hb309 := k333.heap hb309 (Ne.symm n299)
                replace K := K.trans' k333 (fun i hi e => absurd (e ▸ hi) (Nat.not_lt.2 z43))
                clear hb281
                refine WL.nil ?_
                refine WX.seqN ?_
                refine WC.seq ?_
                refine WC.mixed (fun k => blk A323 = some k) 9 (k := fun w334 k335 => ?_)
                replace hb4 := k335.heap hb4 id
                replace hb10 := k335.heap hb10 id
                replace hb17 := k335.heap hb17 id
                replace hb332 := k335.heap hb332 id
                replace ho326 := ho326.adds k335
                replace hb309 := k335.heap hb309 id
                replace K := K.trans (k335.any _)
                have KC := Keeps.refl (fun k => blk A323 = some k) w334
                have bh336 := hb4
                have bh337 := hb10
                have bh338 := hb17
                have bh339 := hb332
                have bh340 := hb309
                have Kb := K
                refine WA.quiet 0 (d := 150) (.pointer (some ⟨b38, 0, none⟩)) KC (hi := rfl) (k := ?_)
                refine WA.quietR 1 (d := 151) (.slice A323 (([] ++ (List.take ((idxR rows o.id).toNat) rows) ++ [(⟨⟨r286.task.id, o.c, r286.task.d, r286.task.t, r286.task.m⟩, r286.sv⟩ : GRow)]).length) c324) KC (exec_load (fun w_ k_ => ld1 (T := 22) (i := 0) (k_.heap bh339 (ho326.offT hb332 (by decide))))) (hi := rfl) (k := ?_)
                refine WA.quiet 2 (d := 152) (.pointer (some ⟨b1, 0, none⟩)) KC (hi := rfl) (k := ?_)
                refine WA.quietR 3 (d := 153) (.slice A rows.length cp) KC (exec_load (fun w_ k_ => ld1 (T := 22) (i := 0) (k_.heap bh336 (ho326.offT hb4 (by decide))))) (hi := rfl) (k := ?_)
                refine WA.quiet 4 (d := 154) (.int .i64 (idxR rows o.id)) KC (hi := rfl) (k := ?_)
                refine WA.quiet 5 (d := 155) (.int .i64 (IntKind.i64.wrap ((idxR rows o.id) + 1))) KC (hi := rfl) (k := ?_)
                refine WA.rw (t := 155) (v := .int .i64 ((idxR rows o.id) + 1)) (congrArg (Value.int .i64) (IntWalk.i64_in _ (by omega))) (k := ?_)
                have hs341 := SlAt.cutD (a := ((idxR rows o.id) + 1).toNat) (c := cp) hA (by omega) (by omega)
                refine WA.quietR 6 (d := 156) (.slice (cutA A cp (((idxR rows o.id) + 1).toNat) 6) ((List.drop (((idxR rows o.id) + 1).toNat) rows).length) (cp - (((idxR rows o.id) + 1).toNat))) KC (exec_cut (vx := .slice A rows.length cp) (lo' := (some (.int .i64 ((idxR rows o.id) + 1)))) (hi' := none) (mx' := none) (fun _ => run_cutSl (a := ((idxR rows o.id) + 1).toNat) (b := rows.length) (c := cp) (m := 6) (E := 53) (by kernel_rfl) (by kernel_rfl) (.inl ⟨rfl, rfl⟩) (.inl ⟨rfl, rfl, rfl⟩) (.inr ⟨_, _, rfl, by omega⟩) (by omega) (by omega) rfl (by simp <;> omega) (by omega))) (hi := rfl) (k := ?_)
                refine WA.step 7 (hi := rfl) (k := ?_)
                refine WL.append (d := 157) (T := 22) (cl := rowC) (xs := [] ++ (List.take ((idxR rows o.id).toNat) rows) ++ [(⟨⟨r286.task.id, o.c, r286.task.d, r286.task.t, r286.task.m⟩, r286.sv⟩ : GRow)]) (ys := List.drop (((idxR rows o.id) + 1).toNat) rows) (c := (cp - (((idxR rows o.id) + 1).toNat))) ekRow ho326 (hs341.adds K) (by first | omega | (simp; omega) | (have hz_ := insU_len rows (⟨o.task, o.sv⟩ : GRow) (posR rows o.task.id) i; simp; omega)) (k := fun A342 c343 w344 ho345 k346 n347 => ?_)
                have ol348 := olink_step ol329 K n347
                have n349 := off_step n347 n330 (lt_of_heap hb309)
                replace hb4 := k346.heap hb4 (ho326.offT hb4 (by decide))
                replace hb10 := k346.heap hb10 (ho326.offT hb10 (by decide))
                replace hb17 := k346.heap hb17 (ho326.offT hb17 (by decide))
                replace hb332 := k346.heap hb332 (ho326.offT hb332 (by decide))
                replace hb309 := k346.heap hb309 n330
                replace K := K.trans' k346 (fun i hi e => absurd hi (Nat.not_lt.2 (ol329 i e)))
                replace KC := KC.trans' k346 (fun i hi e => e)
                clear ho326
                refine WL.nil ?_
                refine WX.nxt KC ?_
                refine WA.quiet 8 (d := 158) (.pointer (some ⟨b38, 0, none⟩)) KC (hi := rfl) (k := ?_)
                refine WA.step 9 (hi := rfl) (k := ?_)
                refine WL.store (v := .slice A342 (([] ++ (List.take ((idxR rows o.id).toNat) rows) ++ [(⟨⟨r286.task.id, o.c, r286.task.d, r286.task.t, r286.task.m⟩, r286.sv⟩ : GRow)] ++ (List.drop (((idxR rows o.id) + 1).toNat) rows)).length) c343) (i := 0) (cs' := #[.slice A342 (([] ++ (List.take ((idxR rows o.id).toNat) rows) ++ [(⟨⟨r286.task.id, o.c, r286.task.d, r286.task.t, r286.task.m⟩, r286.sv⟩ : GRow)] ++ (List.drop (((idxR rows o.id) + 1).toNat) rows)).length) c343, .int .i64 md]) hb332 (k := fun w350 hb351 k352 => ?_)
                replace hb4 := k352.heap hb4 n44
                replace hb10 := k352.heap hb10 n45
                replace hb17 := k352.heap hb17 n46
                replace ho345 := ho345.keeps k352 (fun i hi e => (ho345.offT hb332 (by decide)) (e ▸ hi))
                replace hb309 := k352.heap hb309 (Ne.symm n299)
                replace K := K.trans' k352 (fun i hi e => absurd (e ▸ hi) (Nat.not_lt.2 z43))
                clear hb332
                refine WL.nil ?_
                refine WX.nxtL ?_
                refine WA.done (k := ?_)
                clear KC
                refine WX.seqN ?_
                refine WC.seq ?_
                refine WC.region ?_
                refine WL.load (v := .agg #[.slice A342 (([] ++ (List.take ((idxR rows o.id).toNat) rows) ++ [(⟨⟨r286.task.id, o.c, r286.task.d, r286.task.t, r286.task.m⟩, r286.sv⟩ : GRow)] ++ (List.drop (((idxR rows o.id) + 1).toNat) rows)).length) c343, .int .i64 md]) (ldN (T := 24) (i := 0) (m := 2) (l := [.slice A342 (([] ++ (List.take ((idxR rows o.id).toNat) rows) ++ [(⟨⟨r286.task.id, o.c, r286.task.d, r286.task.t, r286.task.m⟩, r286.sv⟩ : GRow)] ++ (List.drop (((idxR rows o.id) + 1).toNat) rows)).length) c343, .int .i64 md]) hb351) (k := ?_)
                refine WL.store (v := .agg #[.slice A342 (([] ++ (List.take ((idxR rows o.id).toNat) rows) ++ [(⟨⟨r286.task.id, o.c, r286.task.d, r286.task.t, r286.task.m⟩, r286.sv⟩ : GRow)] ++ (List.drop (((idxR rows o.id) + 1).toNat) rows)).length) c343, .int .i64 md]) (i := 0) (cs' := #[.slice A342 (([] ++ (List.take ((idxR rows o.id).toNat) rows) ++ [(⟨⟨r286.task.id, o.c, r286.task.d, r286.task.t, r286.task.m⟩, r286.sv⟩ : GRow)] ++ (List.drop (((idxR rows o.id) + 1).toNat) rows)).length) c343, .int .i64 md]) hb17 (k := fun w353 hb354 k355 => ?_)
                replace hb4 := k355.heap hb4 n20
                replace hb10 := k355.heap hb10 n21
                replace hb351 := k355.heap hb351 (Ne.symm n46)
                replace ho345 := ho345.keeps k355 (fun i hi e => (ho345.offT hb17 (by decide)) (e ▸ hi))
                replace hb309 := k355.heap hb309 (Ne.symm n298)
                replace K := K.trans' k355 (fun i hi e => absurd (e ▸ hi) (Nat.not_lt.2 z19))
                clear hb17
                refine WL.op (d := 5) (.int .i64 0) (k := ?_)
                refine WL.nil ?_
                refine WX.seqN ?_
                refine WC.ret ?_
                refine WX.ret (rs := [.cell 4 24, .tmp 5]) [.agg #[.slice A342 (([] ++ (List.take ((idxR rows o.id).toNat) rows) ++ [(⟨⟨r286.task.id, o.c, r286.task.d, r286.task.t, r286.task.m⟩, r286.sv⟩ : GRow)] ++ (List.drop (((idxR rows o.id) + 1).toNat) rows)).length) c343, .int .i64 md], .int .i64 0] (.tuple #[.agg #[.slice A342 (([] ++ (List.take ((idxR rows o.id).toNat) rows) ++ [(⟨⟨r286.task.id, o.c, r286.task.d, r286.task.t, r286.task.m⟩, r286.sv⟩ : GRow)] ++ (List.drop (((idxR rows o.id) + 1).toNat) rows)).length) c343, .int .i64 md], .int .i64 0]) ⟨⟨_, (by kernel_rfl), ldN (T := 24) (i := 0) (m := 2) (l := [.slice A342 (([] ++ (List.take ((idxR rows o.id).toNat) rows) ++ [(⟨⟨r286.task.id, o.c, r286.task.d, r286.task.t, r286.task.m⟩, r286.sv⟩ : GRow)] ++ (List.drop (((idxR rows o.id) + 1).toNat) rows)).length) c343, .int .i64 md]) hb354⟩, (by kernel_rfl), trivial⟩ (k := ?_)
                have hs := upTo_sorted ph31.1
                have f_ := has_idx hs (Int.not_lt.1 ph262)
                have hr_ := hr287
                rw [← f_.2] at hr_
                simp only [Int.toNat_natCast] at hr_
                exact TabRes.mk (by rw [← f_.2]; simp [applyT, admitT, GTable.zero, h26, h31, h32, h37, h50, h243, h262, h283, h304, ph37, ph50, ph243, ph262, ph283, ph304, f_.1, hr_]) rfl ho345 K ol348
            · have ph283 := ne_of_beq_false h283
              refine WC.skip ?_
              refine WX.seqN ?_
              refine WC.seq ?_
              refine WC.mixed (fun k => blk A273 = some k) 9 (k := fun w356 k357 => ?_)
              replace hb4 := k357.heap hb4 id
              replace hb10 := k357.heap hb10 id
              replace hb17 := k357.heap hb17 id
              replace hb281 := k357.heap hb281 id
              replace ho276 := ho276.adds k357
              replace K := K.trans (k357.any _)
              have KC := Keeps.refl (fun k => blk A273 = some k) w356
              have bh358 := hb4
              have bh359 := hb10
              have bh360 := hb17
              have bh361 := hb281
              have Kb := K
              refine WA.quiet 0 (d := 150) (.pointer (some ⟨b38, 0, none⟩)) KC (hi := rfl) (k := ?_)
              refine WA.quietR 1 (d := 151) (.slice A273 (([] ++ (List.take ((idxR rows o.id).toNat) rows)).length) c274) KC (exec_load (fun w_ k_ => ld1 (T := 22) (i := 0) (k_.heap bh361 (ho276.offT hb281 (by decide))))) (hi := rfl) (k := ?_)
              refine WA.quiet 2 (d := 152) (.pointer (some ⟨b1, 0, none⟩)) KC (hi := rfl) (k := ?_)
              refine WA.quietR 3 (d := 153) (.slice A rows.length cp) KC (exec_load (fun w_ k_ => ld1 (T := 22) (i := 0) (k_.heap bh358 (ho276.offT hb4 (by decide))))) (hi := rfl) (k := ?_)
              refine WA.quiet 4 (d := 154) (.int .i64 (idxR rows o.id)) KC (hi := rfl) (k := ?_)
              refine WA.quiet 5 (d := 155) (.int .i64 (IntKind.i64.wrap ((idxR rows o.id) + 1))) KC (hi := rfl) (k := ?_)
              refine WA.rw (t := 155) (v := .int .i64 ((idxR rows o.id) + 1)) (congrArg (Value.int .i64) (IntWalk.i64_in _ (by omega))) (k := ?_)
              have hs362 := SlAt.cutD (a := ((idxR rows o.id) + 1).toNat) (c := cp) hA (by omega) (by omega)
              refine WA.quietR 6 (d := 156) (.slice (cutA A cp (((idxR rows o.id) + 1).toNat) 6) ((List.drop (((idxR rows o.id) + 1).toNat) rows).length) (cp - (((idxR rows o.id) + 1).toNat))) KC (exec_cut (vx := .slice A rows.length cp) (lo' := (some (.int .i64 ((idxR rows o.id) + 1)))) (hi' := none) (mx' := none) (fun _ => run_cutSl (a := ((idxR rows o.id) + 1).toNat) (b := rows.length) (c := cp) (m := 6) (E := 53) (by kernel_rfl) (by kernel_rfl) (.inl ⟨rfl, rfl⟩) (.inl ⟨rfl, rfl, rfl⟩) (.inr ⟨_, _, rfl, by omega⟩) (by omega) (by omega) rfl (by simp <;> omega) (by omega))) (hi := rfl) (k := ?_)
              refine WA.step 7 (hi := rfl) (k := ?_)
              refine WL.append (d := 157) (T := 22) (cl := rowC) (xs := [] ++ (List.take ((idxR rows o.id).toNat) rows)) (ys := List.drop (((idxR rows o.id) + 1).toNat) rows) (c := (cp - (((idxR rows o.id) + 1).toNat))) ekRow ho276 (hs362.adds K) (by first | omega | (simp; omega) | (have hz_ := insU_len rows (⟨o.task, o.sv⟩ : GRow) (posR rows o.task.id) i; simp; omega)) (k := fun A363 c364 w365 ho366 k367 n368 => ?_)
              have ol369 := olink_step ol279 K n368
              replace hb4 := k367.heap hb4 (ho276.offT hb4 (by decide))
              replace hb10 := k367.heap hb10 (ho276.offT hb10 (by decide))
              replace hb17 := k367.heap hb17 (ho276.offT hb17 (by decide))
              replace hb281 := k367.heap hb281 (ho276.offT hb281 (by decide))
              replace K := K.trans' k367 (fun i hi e => absurd hi (Nat.not_lt.2 (ol279 i e)))
              replace KC := KC.trans' k367 (fun i hi e => e)
              clear ho276
              refine WL.nil ?_
              refine WX.nxt KC ?_
              refine WA.quiet 8 (d := 158) (.pointer (some ⟨b38, 0, none⟩)) KC (hi := rfl) (k := ?_)
              refine WA.step 9 (hi := rfl) (k := ?_)
              refine WL.store (v := .slice A363 (([] ++ (List.take ((idxR rows o.id).toNat) rows) ++ (List.drop (((idxR rows o.id) + 1).toNat) rows)).length) c364) (i := 0) (cs' := #[.slice A363 (([] ++ (List.take ((idxR rows o.id).toNat) rows) ++ (List.drop (((idxR rows o.id) + 1).toNat) rows)).length) c364, .int .i64 md]) hb281 (k := fun w370 hb371 k372 => ?_)
              replace hb4 := k372.heap hb4 n44
              replace hb10 := k372.heap hb10 n45
              replace hb17 := k372.heap hb17 n46
              replace ho366 := ho366.keeps k372 (fun i hi e => (ho366.offT hb281 (by decide)) (e ▸ hi))
              replace K := K.trans' k372 (fun i hi e => absurd (e ▸ hi) (Nat.not_lt.2 z43))
              clear hb281
              refine WL.nil ?_
              refine WX.nxtL ?_
              refine WA.done (k := ?_)
              clear KC
              refine WX.seqN ?_
              refine WC.seq ?_
              refine WC.region ?_
              refine WL.load (v := .agg #[.slice A363 (([] ++ (List.take ((idxR rows o.id).toNat) rows) ++ (List.drop (((idxR rows o.id) + 1).toNat) rows)).length) c364, .int .i64 md]) (ldN (T := 24) (i := 0) (m := 2) (l := [.slice A363 (([] ++ (List.take ((idxR rows o.id).toNat) rows) ++ (List.drop (((idxR rows o.id) + 1).toNat) rows)).length) c364, .int .i64 md]) hb371) (k := ?_)
              refine WL.store (v := .agg #[.slice A363 (([] ++ (List.take ((idxR rows o.id).toNat) rows) ++ (List.drop (((idxR rows o.id) + 1).toNat) rows)).length) c364, .int .i64 md]) (i := 0) (cs' := #[.slice A363 (([] ++ (List.take ((idxR rows o.id).toNat) rows) ++ (List.drop (((idxR rows o.id) + 1).toNat) rows)).length) c364, .int .i64 md]) hb17 (k := fun w373 hb374 k375 => ?_)
              replace hb4 := k375.heap hb4 n20
              replace hb10 := k375.heap hb10 n21
              replace hb371 := k375.heap hb371 (Ne.symm n46)
              replace ho366 := ho366.keeps k375 (fun i hi e => (ho366.offT hb17 (by decide)) (e ▸ hi))
              replace K := K.trans' k375 (fun i hi e => absurd (e ▸ hi) (Nat.not_lt.2 z19))
              clear hb17
              refine WL.op (d := 5) (.int .i64 0) (k := ?_)
              refine WL.nil ?_
              refine WX.seqN ?_
              refine WC.ret ?_
              refine WX.ret (rs := [.cell 4 24, .tmp 5]) [.agg #[.slice A363 (([] ++ (List.take ((idxR rows o.id).toNat) rows) ++ (List.drop (((idxR rows o.id) + 1).toNat) rows)).length) c364, .int .i64 md], .int .i64 0] (.tuple #[.agg #[.slice A363 (([] ++ (List.take ((idxR rows o.id).toNat) rows) ++ (List.drop (((idxR rows o.id) + 1).toNat) rows)).length) c364, .int .i64 md], .int .i64 0]) ⟨⟨_, (by kernel_rfl), ldN (T := 24) (i := 0) (m := 2) (l := [.slice A363 (([] ++ (List.take ((idxR rows o.id).toNat) rows) ++ (List.drop (((idxR rows o.id) + 1).toNat) rows)).length) c364, .int .i64 md]) hb374⟩, (by kernel_rfl), trivial⟩ (k := ?_)
              have hs := upTo_sorted ph31.1
              have f_ := has_idx hs (Int.not_lt.1 ph262)
              have kd_ : o.kind = 2 := by have kk_ := GOp.kinds ph37; omega
              exact TabRes.mk (by rw [← f_.2]; simp [applyT, admitT, GTable.zero, h26, h31, h32, h37, h50, h243, h262, h283, ph37, ph50, ph243, ph262, ph283, f_.1, kd_]) rfl ho366 K ol369

end Go.Proofs.Ytpkcohhfkeinmaa
