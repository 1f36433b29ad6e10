/- The document's Check of ops. -/
import Derived.Test.YtpkcohhfkeinmaaSy0
namespace Go.Proofs.Ytpkcohhfkeinmaa
open Go.RowKit
set_option linter.unusedVariables false
set_option linter.unusedSimpArgs false

set_option maxRecDepth 100000 in
theorem u13Check_c (o : GOp) (w : World) : Calls Try.prog 42 #[o.val] w fun e w' => e = .returned (.bool (decide (GOp.ok o))) ∧ Adds w w' := by
  have K : Keeps (fun _ => False) w w := Keeps.refl _ w
  refine Calls.start Try.func42 rfl (by kernel_rfl) ?_
  refine WC.seq ?_
  refine WC.region ?_
  refine WL.new (d := 1) (T := 46) (Value.cells (GOp.val o)) (k := fun b1 w2 g3 hb4 k5 => ?_)
  have z6 := Nat.le_trans K.size g3
  replace K := K.trans (k5.any _)
  refine WL.op (d := 2) (.bool false) (k := ?_)
  refine WL.nil ?_
  refine WX.seqN ?_
  refine WC.seq ?_
  refine WC.seq ?_
  refine WC.quiet (k := ?_)
  refine WQ.load (v := GOp.val o) (fun w_ k_ => ldN (T := 46) (i := 0) (m := 10) (l := (Value.cells (GOp.val o)).toList) (k_.heap hb4 id)) (k := ?_)
  refine WQ.load (v := GOp.val o) (fun w_ k_ => ldN (T := 46) (i := 0) (m := 10) (l := (Value.cells (GOp.val o)).toList) (k_.heap hb4 id)) (k := ?_)
  refine WQ.callG (d := 6) (f := 39) (args := #[GOp.val o]) (v := GOp.val (GOp.bare o)) (fun w_ k_ => u13Bare_c o w_) addsR (k := ?_)
  refine WQ.bin (d := 7) (v := .bool (!(GOp.same o (GOp.bare o)))) (fun w_ => neqOpV o (GOp.bare o) w_) (k := ?_)
  refine WQ.op (d := 8) (.bool (!(GOp.same o (GOp.bare o)))) (k := ?_)
  refine bsplit (!(GOp.same o (GOp.bare o))) (fun h7 => ?_) (fun h7 => ?_)
  · have h8 : (GOp.same o (GOp.bare o)) = false := by simpa using h7
    refine WQ.rw (t := 8) (v := .bool true) (congrArg Value.bool h7) (k := ?_)
    refine WQ.skip (d := 9) (k := ?_)
    refine WQ.skip (d := 10) (k := ?_)
    refine WQ.skip (d := 11) (k := ?_)
    refine WQ.op (d := 12) (.bool true) (k := ?_)
    refine WQ.op (d := 13) (.bool true) (k := ?_)
    refine WQ.skip (d := 14) (k := ?_)
    refine WQ.skip (d := 15) (k := ?_)
    refine WQ.skip (d := 16) (k := ?_)
    refine WQ.op (d := 17) (.bool true) (k := ?_)
    refine WQ.nilX (fun w9 k10 => ?_)
    replace hb4 := k10.heap hb4 id
    replace K := K.trans (k10.any _)
    refine WX.seqN ?_
    refine WC.condT (k := ?_)
    refine WC.seq ?_
    refine WC.region ?_
    refine WL.op (d := 2) (.bool false) (k := ?_)
    refine WL.nil ?_
    refine WX.seqN ?_
    refine WC.ret ?_
    refine WX.seqR ?_
    refine WX.ret (rs := [.tmp 2]) [.bool false] (.bool false) ⟨(by kernel_rfl), trivial⟩ (k := ?_)
    exact ⟨ret_bool (ok_ne (same_false h8)), K⟩
  · have h11 : (GOp.same o (GOp.bare o)) = true := by simpa using h7
    refine WQ.rw (t := 8) (v := .bool false) (congrArg Value.bool h7) (k := ?_)
    refine WQ.op (d := 9) (.pointer (some ⟨b1, 7, none⟩)) (k := ?_)
    refine WQ.load (v := .int .i64 o.id) (fun w_ k_ => ld1 (T := 3) (i := 7) (k_.heap hb4 id)) (k := ?_)
    refine WQ.op (d := 11) (.bool (decide (o.id < 0))) (k := ?_)
    refine WQ.op (d := 12) (.bool (decide (o.id < 0))) (k := ?_)
    refine WQ.op (d := 13) (.bool (decide (o.id < 0))) (k := ?_)
    refine bsplit (decide (o.id < 0)) (fun h12 => ?_) (fun h12 => ?_)
    · have ph12 := of_decide_eq_true h12
      refine WQ.rw (t := 13) (v := .bool true) (congrArg Value.bool h12) (k := ?_)
      refine WQ.skip (d := 14) (k := ?_)
      refine WQ.skip (d := 15) (k := ?_)
      refine WQ.skip (d := 16) (k := ?_)
      refine WQ.op (d := 17) (.bool true) (k := ?_)
      refine WQ.nilX (fun w13 k14 => ?_)
      replace hb4 := k14.heap hb4 id
      replace K := K.trans (k14.any _)
      refine WX.seqN ?_
      refine WC.condT (k := ?_)
      refine WC.seq ?_
      refine WC.region ?_
      refine WL.op (d := 2) (.bool false) (k := ?_)
      refine WL.nil ?_
      refine WX.seqN ?_
      refine WC.ret ?_
      refine WX.seqR ?_
      refine WX.ret (rs := [.tmp 2]) [.bool false] (.bool false) ⟨(by kernel_rfl), trivial⟩ (k := ?_)
      exact ⟨ret_bool (ok_lo (same_true h11) ph12), K⟩
    · have ph12 := of_decide_eq_false h12
      refine WQ.rw (t := 13) (v := .bool false) (congrArg Value.bool h12) (k := ?_)
      refine WQ.op (d := 14) (.pointer (some ⟨b1, 7, none⟩)) (k := ?_)
      refine WQ.load (v := .int .i64 o.id) (fun w_ k_ => ld1 (T := 3) (i := 7) (k_.heap hb4 id)) (k := ?_)
      refine WQ.op (d := 16) (.bool (decide (o.id > 1023))) (k := ?_)
      refine WQ.op (d := 17) (.bool (decide (o.id > 1023))) (k := ?_)
      refine WQ.nilX (fun w15 k16 => ?_)
      replace hb4 := k16.heap hb4 id
      replace K := K.trans (k16.any _)
      refine WX.seqN ?_
      refine WC.cond (b := decide (o.id > 1023)) (ht := fun h17 => ?_) (hf := fun h17 => ?_)
      · have ph17 := of_decide_eq_true h17
        refine WC.seq ?_
        refine WC.region ?_
        refine WL.op (d := 2) (.bool false) (k := ?_)
        refine WL.nil ?_
        refine WX.seqN ?_
        refine WC.ret ?_
        refine WX.seqR ?_
        refine WX.ret (rs := [.tmp 2]) [.bool false] (.bool false) ⟨(by kernel_rfl), trivial⟩ (k := ?_)
        exact ⟨ret_bool (ok_hi (same_true h11) ph17), K⟩
      · have ph17 := of_decide_eq_false h17
        refine WC.skip ?_
        refine WX.seqN ?_
        refine WC.seq ?_
        refine WC.seq ?_
        refine WC.region ?_
        refine WL.op (d := 18) (.pointer (some ⟨b1, 0, none⟩)) (k := ?_)
        refine WL.load (v := .int .i64 o.kind) (ld1 (T := 3) (i := 0) hb4) (k := ?_)
        refine WL.nil ?_
        refine WX.seqN ?_
        refine WC.block ?_
        refine WC.seq ?_
        refine WC.region ?_
        refine WL.op (d := 21) (.bool (o.kind == 1)) (k := ?_)
        refine WL.op (d := 20) (.bool (o.kind == 1)) (k := ?_)
        refine WL.nil ?_
        refine WX.seqN ?_
        refine WC.cond (b := o.kind == 1) (ht := fun h18 => ?_) (hf := fun h18 => ?_)
        · have ph18 := eq_of_beq h18
          refine WC.seq ?_
          refine WC.region ?_
          refine WL.op (d := 22) (.pointer (some ⟨b1, 1, none⟩)) (k := ?_)
          refine WL.load (v := GTask.val o.task) (ldN (T := 44) (i := 1) (m := 5) (l := (Value.cells (GTask.val o.task)).toList) hb4) (k := ?_)
          refine WL.callG (d := 24) (f := 83) (args := #[GTask.val o.task]) (u09Check_c o.task w15) (k := fun e_ w19 h_ => ⟨.bool (decide (GTask.ok o.task)), h_.1, ?_⟩)
          have k20 := h_.2; clear h_
          replace hb4 := k20.heap hb4 id
          replace K := K.trans (k20.any _)
          refine WL.op (d := 3) (.bool (decide (GTask.ok o.task))) (k := ?_)
          refine WL.nil ?_
          refine WX.seqN ?_
          refine WC.seq ?_
          refine WC.region ?_
          refine WL.op (d := 25) (.bool (decide (GTask.ok o.task))) (k := ?_)
          refine WL.op (d := 26) (.bool (decide (GTask.ok o.task))) (k := ?_)
          refine bsplit (decide (GTask.ok o.task)) (fun h21 => ?_) (fun h21 => ?_)
          · have ph21 := of_decide_eq_true h21
            refine WL.rw (t := 26) (v := .bool true) (congrArg Value.bool h21) (k := ?_)
            refine WL.op (d := 27) (.pointer (some ⟨b1, 6, none⟩)) (k := ?_)
            refine WL.load (v := .bool o.sv) (ld1 (T := 4) (i := 6) hb4) (k := ?_)
            refine WL.op (d := 29) (.bool (!(o.sv))) (k := ?_)
            refine WL.op (d := 30) (.bool (!(o.sv))) (k := ?_)
            refine bsplit (!(o.sv)) (fun h22 => ?_) (fun h22 => ?_)
            · have h23 : (o.sv) = false := by simpa using h22
              refine WL.rw (t := 30) (v := .bool true) (congrArg Value.bool h22) (k := ?_)
              refine WL.skip (d := 31) (k := ?_)
              refine WL.skip (d := 32) (k := ?_)
              refine WL.skip (d := 33) (k := ?_)
              refine WL.skip (d := 34) (k := ?_)
              refine WL.skip (d := 35) (k := ?_)
              refine WL.skip (d := 36) (k := ?_)
              refine WL.skip (d := 37) (k := ?_)
              refine WL.op (d := 38) (.bool true) (k := ?_)
              refine WL.op (d := 39) (.bool true) (k := ?_)
              refine WL.op (d := 2) (.bool true) (k := ?_)
              refine WL.nil ?_
              refine WX.seqN ?_
              refine WC.ret ?_
              refine WX.blockR ?_
              refine WX.seqR ?_
              refine WX.ret (rs := [.tmp 2]) [.bool true] (.bool true) ⟨(by kernel_rfl), trivial⟩ (k := ?_)
              refine ⟨ret_bool ?_, K⟩
              rw [ok_eq (same_true h11), Bool.eq_iff_iff]
              simp [GOp.right, ph12, ph17, ph18, ph21, h23]
              try omega
            · have h24 : (o.sv) = true := by simpa using h22
              refine WL.rw (t := 30) (v := .bool false) (congrArg Value.bool h22) (k := ?_)
              refine WL.op (d := 31) (.pointer (some ⟨b1, 1, none⟩)) (k := ?_)
              refine WL.op (d := 32) (.pointer (some ⟨b1, 3, none⟩)) (k := ?_)
              refine WL.load (v := .int .i64 o.task.d) (ld1 (T := 2) (i := 3) hb4) (k := ?_)
              refine WL.op (d := 34) (.pointer (some ⟨b1, 1, none⟩)) (k := ?_)
              refine WL.op (d := 35) (.pointer (some ⟨b1, 4, none⟩)) (k := ?_)
              refine WL.load (v := .int .i64 o.task.t) (ld1 (T := 2) (i := 4) hb4) (k := ?_)
              refine WL.op (d := 37) (.bool (o.task.d == o.task.t)) (k := ?_)
              refine WL.op (d := 38) (.bool (o.task.d == o.task.t)) (k := ?_)
              refine WL.op (d := 39) (.bool (o.task.d == o.task.t)) (k := ?_)
              refine WL.op (d := 2) (.bool (o.task.d == o.task.t)) (k := ?_)
              refine WL.nil ?_
              refine WX.seqN ?_
              refine WC.ret ?_
              refine WX.blockR ?_
              refine WX.seqR ?_
              refine WX.ret (rs := [.tmp 2]) [.bool (o.task.d == o.task.t)] (.bool (o.task.d == o.task.t)) ⟨(by kernel_rfl), trivial⟩ (k := ?_)
              refine ⟨ret_bool ?_, K⟩
              rw [ok_eq (same_true h11), Bool.eq_iff_iff]
              simp [GOp.right, ph12, ph17, ph18, ph21, h24]
              try omega
          · have ph21 := of_decide_eq_false h21
            refine WL.rw (t := 26) (v := .bool false) (congrArg Value.bool h21) (k := ?_)
            refine WL.skip (d := 27) (k := ?_)
            refine WL.skip (d := 28) (k := ?_)
            refine WL.skip (d := 29) (k := ?_)
            refine WL.skip (d := 30) (k := ?_)
            refine WL.skip (d := 31) (k := ?_)
            refine WL.skip (d := 32) (k := ?_)
            refine WL.skip (d := 33) (k := ?_)
            refine WL.skip (d := 34) (k := ?_)
            refine WL.skip (d := 35) (k := ?_)
            refine WL.skip (d := 36) (k := ?_)
            refine WL.skip (d := 37) (k := ?_)
            refine WL.skip (d := 38) (k := ?_)
            refine WL.op (d := 39) (.bool false) (k := ?_)
            refine WL.op (d := 2) (.bool false) (k := ?_)
            refine WL.nil ?_
            refine WX.seqN ?_
            refine WC.ret ?_
            refine WX.blockR ?_
            refine WX.seqR ?_
            refine WX.ret (rs := [.tmp 2]) [.bool false] (.bool false) ⟨(by kernel_rfl), trivial⟩ (k := ?_)
            refine ⟨ret_bool ?_, K⟩
            rw [ok_eq (same_true h11), Bool.eq_iff_iff]
            simp [GOp.right, ph12, ph17, ph18, ph21]
            try omega
        · have ph18 := ne_of_beq_false h18
          refine WC.seq ?_
          refine WC.region ?_
          refine WL.op (d := 41) (.bool (o.kind == 2)) (k := ?_)
          refine WL.op (d := 40) (.bool (o.kind == 2)) (k := ?_)
          refine WL.nil ?_
          refine WX.seqN ?_
          refine WC.cond (b := o.kind == 2) (ht := fun h25 => ?_) (hf := fun h25 => ?_)
          · have ph25 := eq_of_beq h25
            refine WC.seq ?_
            refine WC.region ?_
            refine WL.op (d := 2) (.bool true) (k := ?_)
            refine WL.nil ?_
            refine WX.seqN ?_
            refine WC.ret ?_
            refine WX.blockR ?_
            refine WX.seqR ?_
            refine WX.ret (rs := [.tmp 2]) [.bool true] (.bool true) ⟨(by kernel_rfl), trivial⟩ (k := ?_)
            refine ⟨ret_bool ?_, K⟩
            rw [ok_eq (same_true h11), Bool.eq_iff_iff]
            simp [GOp.right, ph12, ph17, ph18, ph25]
            try omega
          · have ph25 := ne_of_beq_false h25
            refine WC.seq ?_
            refine WC.region ?_
            refine WL.op (d := 43) (.bool (o.kind == 3)) (k := ?_)
            refine WL.op (d := 42) (.bool (o.kind == 3)) (k := ?_)
            refine WL.nil ?_
            refine WX.seqN ?_
            refine WC.cond (b := o.kind == 3) (ht := fun h26 => ?_) (hf := fun h26 => ?_)
            · have ph26 := eq_of_beq h26
              refine WC.seq ?_
              refine WC.region ?_
              refine WL.op (d := 44) (.pointer (some ⟨b1, 8, none⟩)) (k := ?_)
              refine WL.load (v := .int .i64 o.c) (ld1 (T := 2) (i := 8) hb4) (k := ?_)
              refine WL.op (d := 46) (.bool (decide (o.c ≥ 1))) (k := ?_)
              refine WL.op (d := 47) (.bool (decide (o.c ≥ 1))) (k := ?_)
              refine bsplit (decide (o.c ≥ 1)) (fun h27 => ?_) (fun h27 => ?_)
              · have ph27 := of_decide_eq_true h27
                refine WL.rw (t := 47) (v := .bool true) (congrArg Value.bool h27) (k := ?_)
                refine WL.op (d := 48) (.pointer (some ⟨b1, 8, none⟩)) (k := ?_)
                refine WL.load (v := .int .i64 o.c) (ld1 (T := 2) (i := 8) hb4) (k := ?_)
                refine WL.op (d := 50) (.bool (decide (o.c ≤ 2147483648))) (k := ?_)
                refine WL.op (d := 51) (.bool (decide (o.c ≤ 2147483648))) (k := ?_)
                refine WL.op (d := 2) (.bool (decide (o.c ≤ 2147483648))) (k := ?_)
                refine WL.nil ?_
                refine WX.seqN ?_
                refine WC.ret ?_
                refine WX.blockR ?_
                refine WX.seqR ?_
                refine WX.ret (rs := [.tmp 2]) [.bool (decide (o.c ≤ 2147483648))] (.bool (decide (o.c ≤ 2147483648))) ⟨(by kernel_rfl), trivial⟩ (k := ?_)
                refine ⟨ret_bool ?_, K⟩
                rw [ok_eq (same_true h11), Bool.eq_iff_iff]
                simp [GOp.right, ph12, ph17, ph18, ph25, ph26, ph27]
                try omega
              · have ph27 := of_decide_eq_false h27
                refine WL.rw (t := 47) (v := .bool false) (congrArg Value.bool h27) (k := ?_)
                refine WL.skip (d := 48) (k := ?_)
                refine WL.skip (d := 49) (k := ?_)
                refine WL.skip (d := 50) (k := ?_)
                refine WL.op (d := 51) (.bool false) (k := ?_)
                refine WL.op (d := 2) (.bool false) (k := ?_)
                refine WL.nil ?_
                refine WX.seqN ?_
                refine WC.ret ?_
                refine WX.blockR ?_
                refine WX.seqR ?_
                refine WX.ret (rs := [.tmp 2]) [.bool false] (.bool false) ⟨(by kernel_rfl), trivial⟩ (k := ?_)
                refine ⟨ret_bool ?_, K⟩
                rw [ok_eq (same_true h11), Bool.eq_iff_iff]
                simp [GOp.right, ph12, ph17, ph18, ph25, ph26, ph27]
                try omega
            · have ph26 := ne_of_beq_false h26
              refine WC.seq ?_
              refine WC.region ?_
              refine WL.op (d := 53) (.bool (o.kind == 4)) (k := ?_)
              refine WL.op (d := 52) (.bool (o.kind == 4)) (k := ?_)
              refine WL.nil ?_
              refine WX.seqN ?_
              refine WC.cond (b := o.kind == 4) (ht := fun h28 => ?_) (hf := fun h28 => ?_)
              · have ph28 := eq_of_beq h28
                refine WC.seq ?_
                refine WC.region ?_
                refine WL.op (d := 54) (.pointer (some ⟨b1, 9, none⟩)) (k := ?_)
                refine WL.load (v := .int .i64 o.m) (ld1 (T := 3) (i := 9) hb4) (k := ?_)
                refine WL.op (d := 56) (.bool (decide (o.m ≥ 0))) (k := ?_)
                refine WL.op (d := 57) (.bool (decide (o.m ≥ 0))) (k := ?_)
                refine bsplit (decide (o.m ≥ 0)) (fun h29 => ?_) (fun h29 => ?_)
                · have ph29 := of_decide_eq_true h29
                  refine WL.rw (t := 57) (v := .bool true) (congrArg Value.bool h29) (k := ?_)
                  refine WL.op (d := 58) (.pointer (some ⟨b1, 9, none⟩)) (k := ?_)
                  refine WL.load (v := .int .i64 o.m) (ld1 (T := 3) (i := 9) hb4) (k := ?_)
                  refine WL.op (d := 60) (.bool (decide (o.m ≤ 3))) (k := ?_)
                  refine WL.op (d := 61) (.bool (decide (o.m ≤ 3))) (k := ?_)
                  refine WL.op (d := 2) (.bool (decide (o.m ≤ 3))) (k := ?_)
                  refine WL.nil ?_
                  refine WX.seqN ?_
                  refine WC.ret ?_
                  refine WX.blockR ?_
                  refine WX.seqR ?_
                  refine WX.ret (rs := [.tmp 2]) [.bool (decide (o.m ≤ 3))] (.bool (decide (o.m ≤ 3))) ⟨(by kernel_rfl), trivial⟩ (k := ?_)
                  refine ⟨ret_bool ?_, K⟩
                  rw [ok_eq (same_true h11), Bool.eq_iff_iff]
                  simp [GOp.right, ph12, ph17, ph18, ph25, ph26, ph28, ph29]
                  try omega
                · have ph29 := of_decide_eq_false h29
                  refine WL.rw (t := 57) (v := .bool false) (congrArg Value.bool h29) (k := ?_)
                  refine WL.skip (d := 58) (k := ?_)
                  refine WL.skip (d := 59) (k := ?_)
                  refine WL.skip (d := 60) (k := ?_)
                  refine WL.op (d := 61) (.bool false) (k := ?_)
                  refine WL.op (d := 2) (.bool false) (k := ?_)
                  refine WL.nil ?_
                  refine WX.seqN ?_
                  refine WC.ret ?_
                  refine WX.blockR ?_
                  refine WX.seqR ?_
                  refine WX.ret (rs := [.tmp 2]) [.bool false] (.bool false) ⟨(by kernel_rfl), trivial⟩ (k := ?_)
                  refine ⟨ret_bool ?_, K⟩
                  rw [ok_eq (same_true h11), Bool.eq_iff_iff]
                  simp [GOp.right, ph12, ph17, ph18, ph25, ph26, ph28, ph29]
                  try omega
              · have ph28 := ne_of_beq_false h28
                refine WC.skip ?_
                refine WX.blockN ?_
                refine WX.seqN ?_
                refine WC.seq ?_
                refine WC.region ?_
                refine WL.op (d := 2) (.bool false) (k := ?_)
                refine WL.nil ?_
                refine WX.seqN ?_
                refine WC.ret ?_
                refine WX.ret (rs := [.tmp 2]) [.bool false] (.bool false) ⟨(by kernel_rfl), trivial⟩ (k := ?_)
                refine ⟨ret_bool ?_, K⟩
                rw [ok_eq (same_true h11), Bool.eq_iff_iff]
                simp [GOp.right, ph12, ph17, ph18, ph25, ph26, ph28]
                try omega

set_option maxRecDepth 100000 in
theorem u13Bytes_no (o : GOp) (hok : ¬ o.ok) (w : World) : Calls Try.prog 31 #[o.val] w fun e w' => e = .returned (.tuple #[.string ⟨#[]⟩, .int .i64 1]) ∧ Adds w w' := by
  have K : Keeps (fun _ => False) w w := Keeps.refl _ w
  have hd : decide (GOp.ok o) = false := decide_eq_false hok
  refine Calls.start Try.func31 rfl (by kernel_rfl) ?_
  refine WC.seq ?_
  refine WC.region ?_
  refine WL.new (d := 1) (T := 46) (Value.cells (GOp.val o)) (k := fun b1 w2 g3 hb4 k5 => ?_)
  have z6 := Nat.le_trans K.size g3
  replace K := K.trans (k5.any _)
  refine WL.op (d := 2) (.string ⟨#[]⟩) (k := ?_)
  refine WL.op (d := 3) (.int .i64 0) (k := ?_)
  refine WL.nil ?_
  refine WX.seqN ?_
  refine WC.seq ?_
  refine WC.region ?_
  refine WL.load (v := GOp.val o) (ldN (T := 46) (i := 0) (m := 10) (l := (Value.cells (GOp.val o)).toList) hb4) (k := ?_)
  refine WL.callG (d := 8) (f := 42) (args := #[GOp.val o]) (u13Check_c o w2) (k := fun e_ w7 h_ => ⟨.bool (decide (GOp.ok o)), h_.1, ?_⟩)
  have k8 := h_.2; clear h_
  replace hb4 := k8.heap hb4 id
  replace K := K.trans (k8.any _)
  refine WL.op (d := 4) (.bool (decide (GOp.ok o))) (k := ?_)
  refine WL.nil ?_
  refine WX.seqN ?_
  refine WC.seq ?_
  refine WC.seq ?_
  refine WC.region ?_
  refine WL.op (d := 9) (.bool (decide (GOp.ok o))) (k := ?_)
  refine WL.op (d := 10) (.bool (!(decide (GOp.ok o)))) (k := ?_)
  refine WL.nil ?_
  refine WX.seqN ?_
  refine WC.rw (t := 10) (v := .bool true) (congrArg Value.bool (congrArg Bool.not hd)) (k := ?_)
  refine WC.condT (k := ?_)
  refine WC.seq ?_
  refine WC.region ?_
  refine WL.op (d := 2) (.string ⟨#[]⟩) (k := ?_)
  refine WL.op (d := 3) (.int .i64 1) (k := ?_)
  refine WL.nil ?_
  refine WX.seqN ?_
  refine WC.ret ?_
  refine WX.seqR ?_
  refine WX.ret (rs := [.tmp 2, .tmp 3]) [.string ⟨#[]⟩, .int .i64 1] (.tuple #[.string ⟨#[]⟩, .int .i64 1]) ⟨(by kernel_rfl), (by kernel_rfl), trivial⟩ (k := ?_)
  exact ⟨rfl, K⟩

set_option maxRecDepth 100000 in
theorem u13Bytes_ok (o : GOp) (hok : o.ok) (w : World) : Calls Try.prog 31 #[o.val] w fun e w' => e = .returned (.tuple #[.string ⟨o.enc.toArray⟩, .int .i64 0]) ∧ Adds w w' := by
  have K : Keeps (fun _ => False) w w := Keeps.refl _ w
  have hd : decide (GOp.ok o) = true := decide_eq_true hok
  obtain ⟨kl, kh, il, ih, cl, ch, ml, mh, tidl, tidh, tcl, tch, tdl, tdh, ttl, tth, tml, tmh⟩ := hok.b
  refine Calls.start Try.func31 rfl (by kernel_rfl) ?_
  refine WC.seq ?_
  refine WC.region ?_
  refine WL.new (d := 1) (T := 46) (Value.cells (GOp.val o)) (k := fun b1 w2 g3 hb4 k5 => ?_)
  have z6 := Nat.le_trans K.size g3
  replace K := K.trans (k5.any _)
  refine WL.op (d := 2) (.string ⟨#[]⟩) (k := ?_)
  refine WL.op (d := 3) (.int .i64 0) (k := ?_)
  refine WL.nil ?_
  refine WX.seqN ?_
  refine WC.seq ?_
  refine WC.region ?_
  refine WL.load (v := GOp.val o) (ldN (T := 46) (i := 0) (m := 10) (l := (Value.cells (GOp.val o)).toList) hb4) (k := ?_)
  refine WL.callG (d := 8) (f := 42) (args := #[GOp.val o]) (u13Check_c o w2) (k := fun e_ w7 h_ => ⟨.bool (decide (GOp.ok o)), h_.1, ?_⟩)
  have k8 := h_.2; clear h_
  replace hb4 := k8.heap hb4 id
  replace K := K.trans (k8.any _)
  refine WL.op (d := 4) (.bool (decide (GOp.ok o))) (k := ?_)
  refine WL.nil ?_
  refine WX.seqN ?_
  refine WC.seq ?_
  refine WC.seq ?_
  refine WC.region ?_
  refine WL.op (d := 9) (.bool (decide (GOp.ok o))) (k := ?_)
  refine WL.op (d := 10) (.bool (!(decide (GOp.ok o)))) (k := ?_)
  refine WL.nil ?_
  refine WX.seqN ?_
  refine WC.rw (t := 10) (v := .bool false) (congrArg Value.bool (congrArg Bool.not hd)) (k := ?_)
  refine WC.condF (k := ?_)
  refine WC.skip ?_
  refine WX.seqN ?_
  refine WC.seq ?_
  refine WC.region ?_
  refine WL.op (d := 11) (.pointer (some ⟨b1, 0, none⟩)) (k := ?_)
  refine WL.load (v := .int .i64 o.kind) (ld1 (T := 3) (i := 0) hb4) (k := ?_)
  refine WL.callG (d := 13) (f := 57) (args := #[.int .i64 o.kind]) (qIntS_any o.kind (by omega) w7) (k := fun e_ w10 h_ => ⟨.string ⟨(encNum (Int.toNat o.kind)).toArray⟩, h_.1, ?_⟩)
  have k11 := h_.2; clear h_
  replace hb4 := k11.heap hb4 id
  replace K := K.trans (k11.any _)
  have ln9 := encNum_len (Int.toNat o.kind) (by omega)
  refine WL.op (d := 5) (.string ⟨(encNum (Int.toNat o.kind)).toArray⟩) (k := ?_)
  refine WL.nil ?_
  refine WX.seqN ?_
  refine WC.seq ?_
  refine WC.seq ?_
  refine WC.region ?_
  refine WL.op (d := 14) (.pointer (some ⟨b1, 0, none⟩)) (k := ?_)
  refine WL.load (v := .int .i64 o.kind) (ld1 (T := 3) (i := 0) hb4) (k := ?_)
  refine WL.nil ?_
  refine WX.seqN ?_
  refine WC.block ?_
  refine WC.seq ?_
  refine WC.region ?_
  refine WL.op (d := 17) (.bool (o.kind == 1)) (k := ?_)
  refine WL.op (d := 16) (.bool (o.kind == 1)) (k := ?_)
  refine WL.nil ?_
  refine WX.seqN ?_
  refine WC.cond (b := o.kind == 1) (ht := fun h12 => ?_) (hf := fun h12 => ?_)
  · have ph12 := eq_of_beq h12
    refine WC.seq ?_
    refine WC.region ?_
    refine WL.op (d := 18) (.pointer (some ⟨b1, 1, none⟩)) (k := ?_)
    refine WL.load (v := GTask.val o.task) (ldN (T := 44) (i := 1) (m := 5) (l := (Value.cells (GTask.val o.task)).toList) hb4) (k := ?_)
    refine WL.new (d := 6) (T := 44) #[.int .i64 0, .int .i64 0, .int .i64 0, .int .i64 0, .int .i64 0] (k := fun b13 w14 g15 hb16 k17 => ?_)
    have z18 := Nat.le_trans K.size g15
    have n19 : b1 ≠ b13 := Nat.ne_of_lt (Nat.lt_of_lt_of_le (lt_of_heap hb4) g15)
    replace hb4 := k17.heap hb4 id
    replace K := K.trans (k17.any _)
    refine WL.store (v := GTask.val o.task) (i := 0) (cs' := (Value.cells (GTask.val o.task))) hb16 (k := fun w20 hb21 k22 => ?_)
    replace hb4 := k22.heap hb4 n19
    replace K := K.trans' k22 (fun i hi e => absurd (e ▸ hi) (Nat.not_lt.2 z18))
    clear hb16
    refine WL.nil ?_
    refine WX.seqN ?_
    refine WC.seq ?_
    refine WC.quiet (k := ?_)
    refine WQ.op (d := 20) (.string ⟨(encNum (Int.toNat o.kind)).toArray⟩) (k := ?_)
    refine WQ.op (d := 21) (.pointer (some ⟨b13, 0, none⟩)) (k := ?_)
    refine WQ.load (v := .int .i64 o.task.id) (fun w_ k_ => ld1 (T := 3) (i := 0) (k_.heap hb21 id)) (k := ?_)
    refine WQ.callG (d := 23) (f := 57) (args := #[.int .i64 o.task.id]) (v := .string ⟨(encNum (Int.toNat o.task.id)).toArray⟩) (fun w_ k_ => qIntS_any o.task.id (by omega) w_) addsR (k := ?_)
    have ln23 := encNum_len (Int.toNat o.task.id) (by omega)
    refine WQ.bin (d := 24) (v := .string ⟨((encNum (Int.toNat o.kind)) ++ (encNum (Int.toNat o.task.id))).toArray⟩) (fun _ => cat_run (by (try simp only [List.length_append, List.length_cons, List.length_nil]); omega)) (k := ?_)
    refine WQ.op (d := 25) (.pointer (some ⟨b13, 1, none⟩)) (k := ?_)
    refine WQ.load (v := .int .i64 o.task.c) (fun w_ k_ => ld1 (T := 2) (i := 1) (k_.heap hb21 id)) (k := ?_)
    refine WQ.opE (d := 27) (.int .u64 (IntKind.u64.wrap o.task.c)) (v := .int .u64 o.task.c) (congrArg (Value.int .u64) (IntWalk.u64_in _ (by omega))) (k := ?_)
    refine WQ.callG (d := 28) (f := 58) (args := #[.int .u64 o.task.c]) (v := .string ⟨(encNum (Int.toNat o.task.c)).toArray⟩) (fun w_ k_ => qNumS_any (Int.toNat o.task.c) o.task.c (by omega) (by omega) w_) addsR (k := ?_)
    have ln24 := encNum_len (Int.toNat o.task.c) (by omega)
    refine WQ.bin (d := 29) (v := .string ⟨((encNum (Int.toNat o.kind)) ++ (encNum (Int.toNat o.task.id)) ++ (encNum (Int.toNat o.task.c))).toArray⟩) (fun _ => cat_run (by (try simp only [List.length_append, List.length_cons, List.length_nil]); omega)) (k := ?_)
    refine WQ.op (d := 30) (.pointer (some ⟨b13, 2, none⟩)) (k := ?_)
    refine WQ.load (v := .int .i64 o.task.d) (fun w_ k_ => ld1 (T := 2) (i := 2) (k_.heap hb21 id)) (k := ?_)
    refine WQ.opE (d := 32) (.int .u64 (IntKind.u64.wrap o.task.d)) (v := .int .u64 o.task.d) (congrArg (Value.int .u64) (IntWalk.u64_in _ (by omega))) (k := ?_)
    refine WQ.callG (d := 33) (f := 58) (args := #[.int .u64 o.task.d]) (v := .string ⟨(encNum (Int.toNat o.task.d)).toArray⟩) (fun w_ k_ => qNumS_any (Int.toNat o.task.d) o.task.d (by omega) (by omega) w_) addsR (k := ?_)
    have ln25 := encNum_len (Int.toNat o.task.d) (by omega)
    refine WQ.bin (d := 34) (v := .string ⟨((encNum (Int.toNat o.kind)) ++ (encNum (Int.toNat o.task.id)) ++ (encNum (Int.toNat o.task.c)) ++ (encNum (Int.toNat o.task.d))).toArray⟩) (fun _ => cat_run (by (try simp only [List.length_append, List.length_cons, List.length_nil]); omega)) (k := ?_)
    refine WQ.op (d := 35) (.pointer (some ⟨b13, 3, none⟩)) (k := ?_)
    refine WQ.load (v := .int .i64 o.task.t) (fun w_ k_ => ld1 (T := 2) (i := 3) (k_.heap hb21 id)) (k := ?_)
    refine WQ.opE (d := 37) (.int .u64 (IntKind.u64.wrap o.task.t)) (v := .int .u64 o.task.t) (congrArg (Value.int .u64) (IntWalk.u64_in _ (by omega))) (k := ?_)
    refine WQ.callG (d := 38) (f := 58) (args := #[.int .u64 o.task.t]) (v := .string ⟨(encNum (Int.toNat o.task.t)).toArray⟩) (fun w_ k_ => qNumS_any (Int.toNat o.task.t) o.task.t (by omega) (by omega) w_) addsR (k := ?_)
    have ln26 := encNum_len (Int.toNat o.task.t) (by omega)
    refine WQ.bin (d := 39) (v := .string ⟨((encNum (Int.toNat o.kind)) ++ (encNum (Int.toNat o.task.id)) ++ (encNum (Int.toNat o.task.c)) ++ (encNum (Int.toNat o.task.d)) ++ (encNum (Int.toNat o.task.t))).toArray⟩) (fun _ => cat_run (by (try simp only [List.length_append, List.length_cons, List.length_nil]); omega)) (k := ?_)
    refine WQ.op (d := 40) (.pointer (some ⟨b13, 4, none⟩)) (k := ?_)
    refine WQ.load (v := .int .i64 o.task.m) (fun w_ k_ => ld1 (T := 3) (i := 4) (k_.heap hb21 id)) (k := ?_)
    refine WQ.callG (d := 42) (f := 57) (args := #[.int .i64 o.task.m]) (v := .string ⟨(encNum (Int.toNat o.task.m)).toArray⟩) (fun w_ k_ => qIntS_any o.task.m (by omega) w_) addsR (k := ?_)
    have ln27 := encNum_len (Int.toNat o.task.m) (by omega)
    refine WQ.bin (d := 43) (v := .string ⟨((encNum (Int.toNat o.kind)) ++ (encNum (Int.toNat o.task.id)) ++ (encNum (Int.toNat o.task.c)) ++ (encNum (Int.toNat o.task.d)) ++ (encNum (Int.toNat o.task.t)) ++ (encNum (Int.toNat o.task.m))).toArray⟩) (fun _ => cat_run (by (try simp only [List.length_append, List.length_cons, List.length_nil]); omega)) (k := ?_)
    refine WQ.op (d := 44) (.pointer (some ⟨b1, 6, none⟩)) (k := ?_)
    refine WQ.load (v := .bool o.sv) (fun w_ k_ => ld1 (T := 4) (i := 6) (k_.heap hb4 id)) (k := ?_)
    refine WQ.callG (d := 46) (f := 59) (args := #[.bool o.sv]) (v := .string ⟨(encFlag o.sv).toArray⟩) (fun w_ k_ => qFlagS_any o.sv w_) addsR (k := ?_)
    have ln28 := encFlag_len o.sv
    refine WQ.bin (d := 47) (v := .string ⟨((encNum (Int.toNat o.kind)) ++ (encNum (Int.toNat o.task.id)) ++ (encNum (Int.toNat o.task.c)) ++ (encNum (Int.toNat o.task.d)) ++ (encNum (Int.toNat o.task.t)) ++ (encNum (Int.toNat o.task.m)) ++ (encFlag o.sv)).toArray⟩) (fun _ => cat_run (by (try simp only [List.length_append, List.length_cons, List.length_nil]); omega)) (k := ?_)
    refine WQ.op (d := 2) (.string ⟨((encNum (Int.toNat o.kind)) ++ (encNum (Int.toNat o.task.id)) ++ (encNum (Int.toNat o.task.c)) ++ (encNum (Int.toNat o.task.d)) ++ (encNum (Int.toNat o.task.t)) ++ (encNum (Int.toNat o.task.m)) ++ (encFlag o.sv)).toArray⟩) (k := ?_)
    refine WQ.op (d := 3) (.int .i64 0) (k := ?_)
    refine WQ.nilX (fun w29 k30 => ?_)
    replace hb4 := k30.heap hb4 id
    replace hb21 := k30.heap hb21 id
    replace K := K.trans (k30.any _)
    refine WX.seqN ?_
    refine WC.ret ?_
    refine WX.blockR ?_
    refine WX.seqR ?_
    refine WX.ret (rs := [.tmp 2, .tmp 3]) [.string ⟨((encNum (Int.toNat o.kind)) ++ (encNum (Int.toNat o.task.id)) ++ (encNum (Int.toNat o.task.c)) ++ (encNum (Int.toNat o.task.d)) ++ (encNum (Int.toNat o.task.t)) ++ (encNum (Int.toNat o.task.m)) ++ (encFlag o.sv)).toArray⟩, .int .i64 0] (.tuple #[.string ⟨((encNum (Int.toNat o.kind)) ++ (encNum (Int.toNat o.task.id)) ++ (encNum (Int.toNat o.task.c)) ++ (encNum (Int.toNat o.task.d)) ++ (encNum (Int.toNat o.task.t)) ++ (encNum (Int.toNat o.task.m)) ++ (encFlag o.sv)).toArray⟩, .int .i64 0]) ⟨(by kernel_rfl), (by kernel_rfl), trivial⟩ (k := ?_)
    refine ⟨congrArg (fun l : List UInt8 => Ending.returned (.tuple #[.string ⟨l.toArray⟩, .int .i64 0])) ?_, K⟩
    simp [GOp.enc, ph12]
  · have ph12 := ne_of_beq_false h12
    refine WC.seq ?_
    refine WC.region ?_
    refine WL.op (d := 49) (.bool (o.kind == 2)) (k := ?_)
    refine WL.op (d := 48) (.bool (o.kind == 2)) (k := ?_)
    refine WL.nil ?_
    refine WX.seqN ?_
    refine WC.cond (b := o.kind == 2) (ht := fun h31 => ?_) (hf := fun h31 => ?_)
    · have ph31 := eq_of_beq h31
      refine WC.seq ?_
      refine WC.region ?_
      refine WL.op (d := 50) (.string ⟨(encNum (Int.toNat o.kind)).toArray⟩) (k := ?_)
      refine WL.op (d := 51) (.pointer (some ⟨b1, 7, none⟩)) (k := ?_)
      refine WL.load (v := .int .i64 o.id) (ld1 (T := 3) (i := 7) hb4) (k := ?_)
      refine WL.callG (d := 53) (f := 57) (args := #[.int .i64 o.id]) (qIntS_any o.id (by omega) w10) (k := fun e_ w33 h_ => ⟨.string ⟨(encNum (Int.toNat o.id)).toArray⟩, h_.1, ?_⟩)
      have k34 := h_.2; clear h_
      replace hb4 := k34.heap hb4 id
      replace K := K.trans (k34.any _)
      have ln32 := encNum_len (Int.toNat o.id) (by omega)
      refine WL.bin (d := 54) (v := .string ⟨((encNum (Int.toNat o.kind)) ++ (encNum (Int.toNat o.id))).toArray⟩) (cat_run (by (try simp only [List.length_append, List.length_cons, List.length_nil]); omega)) (k := ?_)
      refine WL.op (d := 2) (.string ⟨((encNum (Int.toNat o.kind)) ++ (encNum (Int.toNat o.id))).toArray⟩) (k := ?_)
      refine WL.op (d := 3) (.int .i64 0) (k := ?_)
      refine WL.nil ?_
      refine WX.seqN ?_
      refine WC.ret ?_
      refine WX.blockR ?_
      refine WX.seqR ?_
      refine WX.ret (rs := [.tmp 2, .tmp 3]) [.string ⟨((encNum (Int.toNat o.kind)) ++ (encNum (Int.toNat o.id))).toArray⟩, .int .i64 0] (.tuple #[.string ⟨((encNum (Int.toNat o.kind)) ++ (encNum (Int.toNat o.id))).toArray⟩, .int .i64 0]) ⟨(by kernel_rfl), (by kernel_rfl), trivial⟩ (k := ?_)
      refine ⟨congrArg (fun l : List UInt8 => Ending.returned (.tuple #[.string ⟨l.toArray⟩, .int .i64 0])) ?_, K⟩
      simp [GOp.enc, ph12, ph31]
    · have ph31 := ne_of_beq_false h31
      refine WC.seq ?_
      refine WC.region ?_
      refine WL.op (d := 56) (.bool (o.kind == 3)) (k := ?_)
      refine WL.op (d := 55) (.bool (o.kind == 3)) (k := ?_)
      refine WL.nil ?_
      refine WX.seqN ?_
      refine WC.cond (b := o.kind == 3) (ht := fun h35 => ?_) (hf := fun h35 => ?_)
      · have ph35 := eq_of_beq h35
        refine WC.seq ?_
        refine WC.quiet (k := ?_)
        refine WQ.op (d := 57) (.string ⟨(encNum (Int.toNat o.kind)).toArray⟩) (k := ?_)
        refine WQ.op (d := 58) (.pointer (some ⟨b1, 7, none⟩)) (k := ?_)
        refine WQ.load (v := .int .i64 o.id) (fun w_ k_ => ld1 (T := 3) (i := 7) (k_.heap hb4 id)) (k := ?_)
        refine WQ.callG (d := 60) (f := 57) (args := #[.int .i64 o.id]) (v := .string ⟨(encNum (Int.toNat o.id)).toArray⟩) (fun w_ k_ => qIntS_any o.id (by omega) w_) addsR (k := ?_)
        have ln36 := encNum_len (Int.toNat o.id) (by omega)
        refine WQ.bin (d := 61) (v := .string ⟨((encNum (Int.toNat o.kind)) ++ (encNum (Int.toNat o.id))).toArray⟩) (fun _ => cat_run (by (try simp only [List.length_append, List.length_cons, List.length_nil]); omega)) (k := ?_)
        refine WQ.op (d := 62) (.pointer (some ⟨b1, 8, none⟩)) (k := ?_)
        refine WQ.load (v := .int .i64 o.c) (fun w_ k_ => ld1 (T := 2) (i := 8) (k_.heap hb4 id)) (k := ?_)
        refine WQ.opE (d := 64) (.int .u64 (IntKind.u64.wrap o.c)) (v := .int .u64 o.c) (congrArg (Value.int .u64) (IntWalk.u64_in _ (by omega))) (k := ?_)
        refine WQ.callG (d := 65) (f := 58) (args := #[.int .u64 o.c]) (v := .string ⟨(encNum (Int.toNat o.c)).toArray⟩) (fun w_ k_ => qNumS_any (Int.toNat o.c) o.c (by omega) (by omega) w_) addsR (k := ?_)
        have ln37 := encNum_len (Int.toNat o.c) (by omega)
        refine WQ.bin (d := 66) (v := .string ⟨((encNum (Int.toNat o.kind)) ++ (encNum (Int.toNat o.id)) ++ (encNum (Int.toNat o.c))).toArray⟩) (fun _ => cat_run (by (try simp only [List.length_append, List.length_cons, List.length_nil]); omega)) (k := ?_)
        refine WQ.op (d := 2) (.string ⟨((encNum (Int.toNat o.kind)) ++ (encNum (Int.toNat o.id)) ++ (encNum (Int.toNat o.c))).toArray⟩) (k := ?_)
        refine WQ.op (d := 3) (.int .i64 0) (k := ?_)
        refine WQ.nilX (fun w38 k39 => ?_)
        replace hb4 := k39.heap hb4 id
        replace K := K.trans (k39.any _)
        refine WX.seqN ?_
        refine WC.ret ?_
        refine WX.blockR ?_
        refine WX.seqR ?_
        refine WX.ret (rs := [.tmp 2, .tmp 3]) [.string ⟨((encNum (Int.toNat o.kind)) ++ (encNum (Int.toNat o.id)) ++ (encNum (Int.toNat o.c))).toArray⟩, .int .i64 0] (.tuple #[.string ⟨((encNum (Int.toNat o.kind)) ++ (encNum (Int.toNat o.id)) ++ (encNum (Int.toNat o.c))).toArray⟩, .int .i64 0]) ⟨(by kernel_rfl), (by kernel_rfl), trivial⟩ (k := ?_)
        refine ⟨congrArg (fun l : List UInt8 => Ending.returned (.tuple #[.string ⟨l.toArray⟩, .int .i64 0])) ?_, K⟩
        simp [GOp.enc, ph12, ph31, ph35]
      · have ph35 := ne_of_beq_false h35
        refine WC.skip ?_
        refine WX.blockN ?_
        refine WX.seqN ?_
        refine WC.seq ?_
        refine WC.region ?_
        refine WL.op (d := 67) (.string ⟨(encNum (Int.toNat o.kind)).toArray⟩) (k := ?_)
        refine WL.op (d := 68) (.pointer (some ⟨b1, 9, none⟩)) (k := ?_)
        refine WL.load (v := .int .i64 o.m) (ld1 (T := 3) (i := 9) hb4) (k := ?_)
        refine WL.callG (d := 70) (f := 57) (args := #[.int .i64 o.m]) (qIntS_any o.m (by omega) w10) (k := fun e_ w41 h_ => ⟨.string ⟨(encNum (Int.toNat o.m)).toArray⟩, h_.1, ?_⟩)
        have k42 := h_.2; clear h_
        replace hb4 := k42.heap hb4 id
        replace K := K.trans (k42.any _)
        have ln40 := encNum_len (Int.toNat o.m) (by omega)
        refine WL.bin (d := 71) (v := .string ⟨((encNum (Int.toNat o.kind)) ++ (encNum (Int.toNat o.m))).toArray⟩) (cat_run (by (try simp only [List.length_append, List.length_cons, List.length_nil]); omega)) (k := ?_)
        refine WL.op (d := 2) (.string ⟨((encNum (Int.toNat o.kind)) ++ (encNum (Int.toNat o.m))).toArray⟩) (k := ?_)
        refine WL.op (d := 3) (.int .i64 0) (k := ?_)
        refine WL.nil ?_
        refine WX.seqN ?_
        refine WC.ret ?_
        refine WX.ret (rs := [.tmp 2, .tmp 3]) [.string ⟨((encNum (Int.toNat o.kind)) ++ (encNum (Int.toNat o.m))).toArray⟩, .int .i64 0] (.tuple #[.string ⟨((encNum (Int.toNat o.kind)) ++ (encNum (Int.toNat o.m))).toArray⟩, .int .i64 0]) ⟨(by kernel_rfl), (by kernel_rfl), trivial⟩ (k := ?_)
        refine ⟨congrArg (fun l : List UInt8 => Ending.returned (.tuple #[.string ⟨l.toArray⟩, .int .i64 0])) ?_, K⟩
        simp [GOp.enc, ph12, ph31, ph35]
        have e4 : o.kind = 4 := by omega
        simp [e4]

set_option maxRecDepth 100000 in
theorem l13tells_c (o : GOp) (w : World) : Calls Try.prog 38 #[o.val] w fun e w' => e = .returned (.bool true) ∧ Adds w w' := by
  have K : Keeps (fun _ => False) w w := Keeps.refl _ w
  refine Calls.start Try.func38 rfl (by kernel_rfl) ?_
  refine WC.seq ?_
  refine WC.region ?_
  refine WL.new (d := 1) (T := 46) (Value.cells (GOp.val o)) (k := fun b1 w2 g3 hb4 k5 => ?_)
  have z6 := Nat.le_trans K.size g3
  replace K := K.trans (k5.any _)
  refine WL.op (d := 2) (.bool false) (k := ?_)
  refine WL.nil ?_
  refine WX.seqN ?_
  refine WC.seq ?_
  refine WC.region ?_
  refine WL.load (v := GOp.val o) (ldN (T := 46) (i := 0) (m := 10) (l := (Value.cells (GOp.val o)).toList) hb4) (k := ?_)
  refine bsplit (decide (GOp.ok o)) (fun h7 => ?_) (fun h7 => ?_)
  · have ph7 := of_decide_eq_true h7
    refine WL.callG (d := 9) (f := 43) (args := #[GOp.val o]) (pBytes_ok o ph7 w2) (k := fun e_ w8 h_ => ⟨.tuple #[.string ⟨(GOp.enc o).toArray⟩, .int .i64 0], h_.1, ?_⟩)
    have k9 := h_.2; clear h_
    replace hb4 := k9.heap hb4 id
    replace K := K.trans (k9.any _)
    refine WL.op (d := 7) (.tuple #[.string ⟨(GOp.enc o).toArray⟩, .int .i64 0]) (k := ?_)
    refine WL.op (d := 10) (.string ⟨(GOp.enc o).toArray⟩) (k := ?_)
    refine WL.op (d := 11) (.int .i64 0) (k := ?_)
    refine WL.op (d := 3) (.string ⟨(GOp.enc o).toArray⟩) (k := ?_)
    refine WL.op (d := 4) (.int .i64 0) (k := ?_)
    refine WL.nil ?_
    refine WX.seqN ?_
    refine WC.seq ?_
    refine WC.region ?_
    refine WL.load (v := GOp.val o) (ldN (T := 46) (i := 0) (m := 10) (l := (Value.cells (GOp.val o)).toList) hb4) (k := ?_)
    refine WL.callG (d := 14) (f := 31) (args := #[GOp.val o]) (u13Bytes_ok o ph7 w8) (k := fun e_ w10 h_ => ⟨.tuple #[.string ⟨(GOp.enc o).toArray⟩, .int .i64 0], h_.1, ?_⟩)
    have k11 := h_.2; clear h_
    replace hb4 := k11.heap hb4 id
    replace K := K.trans (k11.any _)
    refine WL.op (d := 12) (.tuple #[.string ⟨(GOp.enc o).toArray⟩, .int .i64 0]) (k := ?_)
    refine WL.op (d := 15) (.string ⟨(GOp.enc o).toArray⟩) (k := ?_)
    refine WL.op (d := 16) (.int .i64 0) (k := ?_)
    refine WL.op (d := 5) (.string ⟨(GOp.enc o).toArray⟩) (k := ?_)
    refine WL.op (d := 6) (.int .i64 0) (k := ?_)
    refine WL.nil ?_
    refine WX.seqN ?_
    refine WC.seq ?_
    refine WC.quiet (k := ?_)
    refine WQ.load (v := GOp.val o) (fun w_ k_ => ldN (T := 46) (i := 0) (m := 10) (l := (Value.cells (GOp.val o)).toList) (k_.heap hb4 id)) (k := ?_)
    refine WQ.callG (d := 18) (f := 45) (args := #[GOp.val o]) (v := .bool (decide (GOp.ok o))) (fun w_ k_ => pOCheck_c o w_) addsR (k := ?_)
    refine WQ.load (v := GOp.val o) (fun w_ k_ => ldN (T := 46) (i := 0) (m := 10) (l := (Value.cells (GOp.val o)).toList) (k_.heap hb4 id)) (k := ?_)
    refine WQ.callG (d := 20) (f := 42) (args := #[GOp.val o]) (v := .bool (decide (GOp.ok o))) (fun w_ k_ => u13Check_c o w_) addsR (k := ?_)
    refine WQ.opE (d := 21) (.bool ((decide (GOp.ok o)) == (decide (GOp.ok o)))) (v := .bool true) (congrArg Value.bool (beq_self_eq_true _)) (k := ?_)
    refine WQ.op (d := 22) (.bool true) (k := ?_)
    refine WQ.load (v := GOp.val o) (fun w_ k_ => ldN (T := 46) (i := 0) (m := 10) (l := (Value.cells (GOp.val o)).toList) (k_.heap hb4 id)) (k := ?_)
    refine WQ.callG (d := 24) (f := 44) (args := #[GOp.val o]) (v := GOp.val (GOp.bare o)) (fun w_ k_ => pBare_c o w_) addsR (k := ?_)
    refine WQ.load (v := GOp.val o) (fun w_ k_ => ldN (T := 46) (i := 0) (m := 10) (l := (Value.cells (GOp.val o)).toList) (k_.heap hb4 id)) (k := ?_)
    refine WQ.callG (d := 26) (f := 39) (args := #[GOp.val o]) (v := GOp.val (GOp.bare o)) (fun w_ k_ => u13Bare_c o w_) addsR (k := ?_)
    refine WQ.bin (d := 27) (v := .bool true) (fun w_ => eqOpS (GOp.bare o) w_) (k := ?_)
    refine WQ.op (d := 28) (.bool true) (k := ?_)
    refine WQ.op (d := 29) (.bool true) (k := ?_)
    refine WQ.op (d := 30) (.string ⟨(GOp.enc o).toArray⟩) (k := ?_)
    refine WQ.op (d := 31) (.string ⟨(GOp.enc o).toArray⟩) (k := ?_)
    refine WQ.opE (d := 32) (.bool (ByteArray.toList ⟨(GOp.enc o).toArray⟩ == ByteArray.toList ⟨(GOp.enc o).toArray⟩)) (v := .bool true) (str_eqs _) (k := ?_)
    refine WQ.op (d := 33) (.bool true) (k := ?_)
    refine WQ.op (d := 34) (.bool true) (k := ?_)
    refine WQ.op (d := 35) (.int .i64 0) (k := ?_)
    refine WQ.op (d := 36) (.int .i64 0) (k := ?_)
    refine WQ.op (d := 37) (.bool true) (k := ?_)
    refine WQ.op (d := 38) (.bool true) (k := ?_)
    refine WQ.op (d := 2) (.bool true) (k := ?_)
    refine WQ.nilX (fun w12 k13 => ?_)
    replace hb4 := k13.heap hb4 id
    replace K := K.trans (k13.any _)
    refine WX.seqN ?_
    refine WC.ret ?_
    refine WX.ret (rs := [.tmp 2]) [.bool true] (.bool true) ⟨(by kernel_rfl), trivial⟩ (k := ?_)
    exact ⟨rfl, K⟩
  · have ph7 := of_decide_eq_false h7
    refine WL.callG (d := 9) (f := 43) (args := #[GOp.val o]) (pBytes_no o ph7 w2) (k := fun e_ w14 h_ => ⟨.tuple #[.string ⟨#[]⟩, .int .i64 1], h_.1, ?_⟩)
    have k15 := h_.2; clear h_
    replace hb4 := k15.heap hb4 id
    replace K := K.trans (k15.any _)
    refine WL.op (d := 7) (.tuple #[.string ⟨#[]⟩, .int .i64 1]) (k := ?_)
    refine WL.op (d := 10) (.string ⟨#[]⟩) (k := ?_)
    refine WL.op (d := 11) (.int .i64 1) (k := ?_)
    refine WL.op (d := 3) (.string ⟨#[]⟩) (k := ?_)
    refine WL.op (d := 4) (.int .i64 1) (k := ?_)
    refine WL.nil ?_
    refine WX.seqN ?_
    refine WC.seq ?_
    refine WC.region ?_
    refine WL.load (v := GOp.val o) (ldN (T := 46) (i := 0) (m := 10) (l := (Value.cells (GOp.val o)).toList) hb4) (k := ?_)
    refine WL.callG (d := 14) (f := 31) (args := #[GOp.val o]) (u13Bytes_no o ph7 w14) (k := fun e_ w16 h_ => ⟨.tuple #[.string ⟨#[]⟩, .int .i64 1], h_.1, ?_⟩)
    have k17 := h_.2; clear h_
    replace hb4 := k17.heap hb4 id
    replace K := K.trans (k17.any _)
    refine WL.op (d := 12) (.tuple #[.string ⟨#[]⟩, .int .i64 1]) (k := ?_)
    refine WL.op (d := 15) (.string ⟨#[]⟩) (k := ?_)
    refine WL.op (d := 16) (.int .i64 1) (k := ?_)
    refine WL.op (d := 5) (.string ⟨#[]⟩) (k := ?_)
    refine WL.op (d := 6) (.int .i64 1) (k := ?_)
    refine WL.nil ?_
    refine WX.seqN ?_
    refine WC.seq ?_
    refine WC.quiet (k := ?_)
    refine WQ.load (v := GOp.val o) (fun w_ k_ => ldN (T := 46) (i := 0) (m := 10) (l := (Value.cells (GOp.val o)).toList) (k_.heap hb4 id)) (k := ?_)
    refine WQ.callG (d := 18) (f := 45) (args := #[GOp.val o]) (v := .bool (decide (GOp.ok o))) (fun w_ k_ => pOCheck_c o w_) addsR (k := ?_)
    refine WQ.load (v := GOp.val o) (fun w_ k_ => ldN (T := 46) (i := 0) (m := 10) (l := (Value.cells (GOp.val o)).toList) (k_.heap hb4 id)) (k := ?_)
    refine WQ.callG (d := 20) (f := 42) (args := #[GOp.val o]) (v := .bool (decide (GOp.ok o))) (fun w_ k_ => u13Check_c o w_) addsR (k := ?_)
    refine WQ.opE (d := 21) (.bool ((decide (GOp.ok o)) == (decide (GOp.ok o)))) (v := .bool true) (congrArg Value.bool (beq_self_eq_true _)) (k := ?_)
    refine WQ.op (d := 22) (.bool true) (k := ?_)
    refine WQ.load (v := GOp.val o) (fun w_ k_ => ldN (T := 46) (i := 0) (m := 10) (l := (Value.cells (GOp.val o)).toList) (k_.heap hb4 id)) (k := ?_)
    refine WQ.callG (d := 24) (f := 44) (args := #[GOp.val o]) (v := GOp.val (GOp.bare o)) (fun w_ k_ => pBare_c o w_) addsR (k := ?_)
    refine WQ.load (v := GOp.val o) (fun w_ k_ => ldN (T := 46) (i := 0) (m := 10) (l := (Value.cells (GOp.val o)).toList) (k_.heap hb4 id)) (k := ?_)
    refine WQ.callG (d := 26) (f := 39) (args := #[GOp.val o]) (v := GOp.val (GOp.bare o)) (fun w_ k_ => u13Bare_c o w_) addsR (k := ?_)
    refine WQ.bin (d := 27) (v := .bool true) (fun w_ => eqOpS (GOp.bare o) w_) (k := ?_)
    refine WQ.op (d := 28) (.bool true) (k := ?_)
    refine WQ.op (d := 29) (.bool true) (k := ?_)
    refine WQ.op (d := 30) (.string ⟨#[]⟩) (k := ?_)
    refine WQ.op (d := 31) (.string ⟨#[]⟩) (k := ?_)
    refine WQ.op (d := 32) (.bool true) (k := ?_)
    refine WQ.op (d := 33) (.bool true) (k := ?_)
    refine WQ.op (d := 34) (.bool true) (k := ?_)
    refine WQ.op (d := 35) (.int .i64 1) (k := ?_)
    refine WQ.op (d := 36) (.int .i64 1) (k := ?_)
    refine WQ.op (d := 37) (.bool true) (k := ?_)
    refine WQ.op (d := 38) (.bool true) (k := ?_)
    refine WQ.op (d := 2) (.bool true) (k := ?_)
    refine WQ.nilX (fun w18 k19 => ?_)
    replace hb4 := k19.heap hb4 id
    replace K := K.trans (k19.any _)
    refine WX.seqN ?_
    refine WC.ret ?_
    refine WX.ret (rs := [.tmp 2]) [.bool true] (.bool true) ⟨(by kernel_rfl), trivial⟩ (k := ?_)
    exact ⟨rfl, K⟩

set_option maxRecDepth 100000 in
theorem opsWrite_any (o : GOp) (k : Int) (w : World) : Calls Try.prog 10 #[o.val, .int .i64 k] w fun e w' => e = .returned (.bool true) ∧ Adds w w' := by
  have K : Keeps (fun _ => False) w w := Keeps.refl _ w
  refine Calls.start Try.func10 rfl (by kernel_rfl) ?_
  refine WC.seq ?_
  refine WC.region ?_
  refine WL.new (d := 2) (T := 46) (Value.cells (GOp.val o)) (k := fun b1 w2 g3 hb4 k5 => ?_)
  have z6 := Nat.le_trans K.size g3
  replace K := K.trans (k5.any _)
  refine WL.op (d := 4) (.bool false) (k := ?_)
  refine WL.nil ?_
  refine WX.seqN ?_
  refine WC.seq ?_
  refine WC.region ?_
  refine WL.callG (d := 6) (f := 37) (args := #[]) (l13awake_c w2) (k := fun e_ w7 h_ => ⟨.bool true, h_.1, ?_⟩)
  have k8 := h_.2; clear h_
  replace hb4 := k8.heap hb4 id
  replace K := K.trans (k8.any _)
  refine WL.op (d := 5) (.bool true) (k := ?_)
  refine WL.nil ?_
  refine WX.seqN ?_
  refine WC.seq ?_
  refine WC.quiet (k := ?_)
  refine WQ.op (d := 7) (.bool true) (k := ?_)
  refine WQ.op (d := 8) (.bool true) (k := ?_)
  refine WQ.load (v := GOp.val o) (fun w_ k_ => ldN (T := 46) (i := 0) (m := 10) (l := (Value.cells (GOp.val o)).toList) (k_.heap hb4 id)) (k := ?_)
  refine WQ.callG (d := 10) (f := 38) (args := #[GOp.val o]) (v := .bool true) (fun w_ k_ => l13tells_c o w_) addsR (k := ?_)
  refine WQ.op (d := 11) (.bool true) (k := ?_)
  refine WQ.op (d := 12) (.bool true) (k := ?_)
  refine WQ.load (v := GOp.val o) (fun w_ k_ => ldN (T := 46) (i := 0) (m := 10) (l := (Value.cells (GOp.val o)).toList) (k_.heap hb4 id)) (k := ?_)
  refine WQ.callG (d := 14) (f := 39) (args := #[GOp.val o]) (v := GOp.val (GOp.bare o)) (fun w_ k_ => u13Bare_c o w_) addsR (k := ?_)
  refine WQ.callG (d := 15) (f := 38) (args := #[GOp.val (GOp.bare o)]) (v := .bool true) (fun w_ k_ => l13tells_c (GOp.bare o) w_) addsR (k := ?_)
  refine WQ.op (d := 16) (.bool true) (k := ?_)
  refine WQ.op (d := 17) (.bool true) (k := ?_)
  refine WQ.op (d := 18) (.int .i64 k) (k := ?_)
  refine WQ.callG (d := 19) (f := 40) (args := #[.int .i64 k]) (v := .string ⟨(kindName k).toArray⟩) (fun w_ k_ => pName_c k w_) addsR (k := ?_)
  refine WQ.op (d := 20) (.int .i64 k) (k := ?_)
  refine WQ.callG (d := 21) (f := 41) (args := #[.int .i64 k]) (v := .string ⟨(kindName k).toArray⟩) (fun w_ k_ => u13Name_c k w_) sameR' (k := ?_)
  refine WQ.opE (d := 22) (.bool (ByteArray.toList ⟨(kindName k).toArray⟩ == ByteArray.toList ⟨(kindName k).toArray⟩)) (v := .bool true) (str_eqs _) (k := ?_)
  refine WQ.op (d := 23) (.bool true) (k := ?_)
  refine WQ.op (d := 24) (.bool true) (k := ?_)
  refine WQ.op (d := 25) (.pointer (some ⟨b1, 0, none⟩)) (k := ?_)
  refine WQ.load (v := .int .i64 o.kind) (fun w_ k_ => ld1 (T := 3) (i := 0) (k_.heap hb4 id)) (k := ?_)
  refine WQ.callG (d := 27) (f := 40) (args := #[.int .i64 o.kind]) (v := .string ⟨(kindName o.kind).toArray⟩) (fun w_ k_ => pName_c o.kind w_) addsR (k := ?_)
  refine WQ.op (d := 28) (.pointer (some ⟨b1, 0, none⟩)) (k := ?_)
  refine WQ.load (v := .int .i64 o.kind) (fun w_ k_ => ld1 (T := 3) (i := 0) (k_.heap hb4 id)) (k := ?_)
  refine WQ.callG (d := 30) (f := 41) (args := #[.int .i64 o.kind]) (v := .string ⟨(kindName o.kind).toArray⟩) (fun w_ k_ => u13Name_c o.kind w_) sameR' (k := ?_)
  refine WQ.opE (d := 31) (.bool (ByteArray.toList ⟨(kindName o.kind).toArray⟩ == ByteArray.toList ⟨(kindName o.kind).toArray⟩)) (v := .bool true) (str_eqs _) (k := ?_)
  refine WQ.op (d := 32) (.bool true) (k := ?_)
  refine WQ.op (d := 4) (.bool true) (k := ?_)
  refine WQ.nilX (fun w9 k10 => ?_)
  replace hb4 := k10.heap hb4 id
  replace K := K.trans (k10.any _)
  refine WX.seqN ?_
  refine WC.ret ?_
  refine WX.ret (rs := [.tmp 4]) [.bool true] (.bool true) ⟨(by kernel_rfl), trivial⟩ (k := ?_)
  exact ⟨rfl, K⟩

set_option maxRecDepth 100000 in
theorem opsOne_any (o p : GOp) (w : World) : Calls Try.prog 11 #[o.val, p.val] w fun e w' => e = .returned (.bool true) ∧ Adds w w' := by
  have K : Keeps (fun _ => False) w w := Keeps.refl _ w
  refine Calls.start Try.func11 rfl (by kernel_rfl) ?_
  refine WC.seq ?_
  refine WC.region ?_
  refine WL.new (d := 2) (T := 46) (Value.cells (GOp.val o)) (k := fun b1 w2 g3 hb4 k5 => ?_)
  have z6 := Nat.le_trans K.size g3
  replace K := K.trans (k5.any _)
  refine WL.new (d := 3) (T := 46) (Value.cells (GOp.val p)) (k := fun b7 w8 g9 hb10 k11 => ?_)
  have z12 := Nat.le_trans K.size g9
  have n13 : b1 ≠ b7 := Nat.ne_of_lt (Nat.lt_of_lt_of_le (lt_of_heap hb4) g9)
  replace hb4 := k11.heap hb4 id
  replace K := K.trans (k11.any _)
  refine WL.op (d := 4) (.bool false) (k := ?_)
  refine WL.nil ?_
  refine WX.seqN ?_
  refine WC.seq ?_
  refine WC.region ?_
  refine WL.callG (d := 14) (f := 37) (args := #[]) (l13awake_c w8) (k := fun e_ w14 h_ => ⟨.bool true, h_.1, ?_⟩)
  have k15 := h_.2; clear h_
  replace hb4 := k15.heap hb4 id
  replace hb10 := k15.heap hb10 id
  replace K := K.trans (k15.any _)
  refine WL.op (d := 5) (.bool true) (k := ?_)
  refine WL.nil ?_
  refine WX.seqN ?_
  refine WC.seq ?_
  refine WC.region ?_
  refine WL.load (v := GOp.val o) (ldN (T := 46) (i := 0) (m := 10) (l := (Value.cells (GOp.val o)).toList) hb4) (k := ?_)
  refine WL.callG (d := 16) (f := 39) (args := #[GOp.val o]) (u13Bare_c o w14) (k := fun e_ w16 h_ => ⟨GOp.val (GOp.bare o), h_.1, ?_⟩)
  have k17 := h_.2; clear h_
  replace hb4 := k17.heap hb4 id
  replace hb10 := k17.heap hb10 id
  replace K := K.trans (k17.any _)
  refine WL.new (d := 6) (T := 46) #[.int .i64 0, .int .i64 0, .int .i64 0, .int .i64 0, .int .i64 0, .int .i64 0, .bool false, .int .i64 0, .int .i64 0, .int .i64 0] (k := fun b18 w19 g20 hb21 k22 => ?_)
  have z23 := Nat.le_trans K.size g20
  have n24 : b1 ≠ b18 := Nat.ne_of_lt (Nat.lt_of_lt_of_le (lt_of_heap hb4) g20)
  have n25 : b7 ≠ b18 := Nat.ne_of_lt (Nat.lt_of_lt_of_le (lt_of_heap hb10) g20)
  replace hb4 := k22.heap hb4 id
  replace hb10 := k22.heap hb10 id
  replace K := K.trans (k22.any _)
  refine WL.store (v := GOp.val (GOp.bare o)) (i := 0) (cs' := (Value.cells (GOp.val (GOp.bare o)))) hb21 (k := fun w26 hb27 k28 => ?_)
  replace hb4 := k28.heap hb4 n24
  replace hb10 := k28.heap hb10 n25
  replace K := K.trans' k28 (fun i hi e => absurd (e ▸ hi) (Nat.not_lt.2 z23))
  clear hb21
  refine WL.nil ?_
  refine WX.seqN ?_
  refine WC.seq ?_
  refine WC.region ?_
  refine WL.load (v := GOp.val p) (ldN (T := 46) (i := 0) (m := 10) (l := (Value.cells (GOp.val p)).toList) hb10) (k := ?_)
  refine WL.callG (d := 18) (f := 39) (args := #[GOp.val p]) (u13Bare_c p w26) (k := fun e_ w29 h_ => ⟨GOp.val (GOp.bare p), h_.1, ?_⟩)
  have k30 := h_.2; clear h_
  replace hb4 := k30.heap hb4 id
  replace hb10 := k30.heap hb10 id
  replace hb27 := k30.heap hb27 id
  replace K := K.trans (k30.any _)
  refine WL.new (d := 7) (T := 46) #[.int .i64 0, .int .i64 0, .int .i64 0, .int .i64 0, .int .i64 0, .int .i64 0, .bool false, .int .i64 0, .int .i64 0, .int .i64 0] (k := fun b31 w32 g33 hb34 k35 => ?_)
  have z36 := Nat.le_trans K.size g33
  have n37 : b1 ≠ b31 := Nat.ne_of_lt (Nat.lt_of_lt_of_le (lt_of_heap hb4) g33)
  have n38 : b7 ≠ b31 := Nat.ne_of_lt (Nat.lt_of_lt_of_le (lt_of_heap hb10) g33)
  have n39 : b18 ≠ b31 := Nat.ne_of_lt (Nat.lt_of_lt_of_le (lt_of_heap hb27) g33)
  replace hb4 := k35.heap hb4 id
  replace hb10 := k35.heap hb10 id
  replace hb27 := k35.heap hb27 id
  replace K := K.trans (k35.any _)
  refine WL.store (v := GOp.val (GOp.bare p)) (i := 0) (cs' := (Value.cells (GOp.val (GOp.bare p)))) hb34 (k := fun w40 hb41 k42 => ?_)
  replace hb4 := k42.heap hb4 n37
  replace hb10 := k42.heap hb10 n38
  replace hb27 := k42.heap hb27 n39
  replace K := K.trans' k42 (fun i hi e => absurd (e ▸ hi) (Nat.not_lt.2 z36))
  clear hb34
  refine WL.nil ?_
  refine WX.seqN ?_
  refine WC.seq ?_
  refine WC.region ?_
  refine WL.load (v := GOp.val (GOp.bare o)) (ldN (T := 46) (i := 0) (m := 10) (l := (Value.cells (GOp.val (GOp.bare o))).toList) hb27) (k := ?_)
  refine WL.callG (d := 20) (f := 42) (args := #[GOp.val (GOp.bare o)]) (u13Check_c (GOp.bare o) w40) (k := fun e_ w43 h_ => ⟨.bool (decide (GOp.ok (GOp.bare o))), h_.1, ?_⟩)
  have k44 := h_.2; clear h_
  replace hb4 := k44.heap hb4 id
  replace hb10 := k44.heap hb10 id
  replace hb27 := k44.heap hb27 id
  replace hb41 := k44.heap hb41 id
  replace K := K.trans (k44.any _)
  refine WL.op (d := 8) (.bool (decide (GOp.ok (GOp.bare o)))) (k := ?_)
  refine WL.nil ?_
  refine WX.seqN ?_
  refine WC.seq ?_
  refine WC.region ?_
  refine WL.load (v := GOp.val (GOp.bare p)) (ldN (T := 46) (i := 0) (m := 10) (l := (Value.cells (GOp.val (GOp.bare p))).toList) hb41) (k := ?_)
  refine WL.callG (d := 22) (f := 42) (args := #[GOp.val (GOp.bare p)]) (u13Check_c (GOp.bare p) w43) (k := fun e_ w45 h_ => ⟨.bool (decide (GOp.ok (GOp.bare p))), h_.1, ?_⟩)
  have k46 := h_.2; clear h_
  replace hb4 := k46.heap hb4 id
  replace hb10 := k46.heap hb10 id
  replace hb27 := k46.heap hb27 id
  replace hb41 := k46.heap hb41 id
  replace K := K.trans (k46.any _)
  refine WL.op (d := 9) (.bool (decide (GOp.ok (GOp.bare p)))) (k := ?_)
  refine WL.nil ?_
  refine WX.seqN ?_
  refine WC.seq ?_
  refine WC.seq ?_
  refine WC.region ?_
  refine WL.op (d := 23) (.bool (decide (GOp.ok (GOp.bare o)))) (k := ?_)
  refine WL.op (d := 24) (.bool (!(decide (GOp.ok (GOp.bare o))))) (k := ?_)
  refine WL.op (d := 25) (.bool (!(decide (GOp.ok (GOp.bare o))))) (k := ?_)
  refine bsplit (!(decide (GOp.ok (GOp.bare o)))) (fun h47 => ?_) (fun h47 => ?_)
  · have h48 : (decide (GOp.ok (GOp.bare o))) = false := by simpa using h47
    have ph48 := of_decide_eq_false h48
    refine WL.rw (t := 25) (v := .bool true) (congrArg Value.bool h47) (k := ?_)
    refine WL.skip (d := 26) (k := ?_)
    refine WL.skip (d := 27) (k := ?_)
    refine WL.op (d := 28) (.bool true) (k := ?_)
    refine WL.nil ?_
    refine WX.seqN ?_
    refine WC.condT (k := ?_)
    refine WC.seq ?_
    refine WC.region ?_
    refine WL.op (d := 29) (.bool true) (k := ?_)
    refine WL.op (d := 4) (.bool true) (k := ?_)
    refine WL.nil ?_
    refine WX.seqN ?_
    refine WC.ret ?_
    refine WX.seqR ?_
    refine WX.ret (rs := [.tmp 4]) [.bool true] (.bool true) ⟨(by kernel_rfl), trivial⟩ (k := ?_)
    exact ⟨rfl, K⟩
  · have h49 : (decide (GOp.ok (GOp.bare o))) = true := by simpa using h47
    have ph49 := of_decide_eq_true h49
    refine WL.rw (t := 25) (v := .bool false) (congrArg Value.bool h47) (k := ?_)
    refine WL.op (d := 26) (.bool (decide (GOp.ok (GOp.bare p)))) (k := ?_)
    refine WL.op (d := 27) (.bool (!(decide (GOp.ok (GOp.bare p))))) (k := ?_)
    refine WL.op (d := 28) (.bool (!(decide (GOp.ok (GOp.bare p))))) (k := ?_)
    refine WL.nil ?_
    refine WX.seqN ?_
    refine WC.cond (b := !(decide (GOp.ok (GOp.bare p)))) (ht := fun h50 => ?_) (hf := fun h50 => ?_)
    · have h51 : (decide (GOp.ok (GOp.bare p))) = false := by simpa using h50
      have ph51 := of_decide_eq_false h51
      refine WC.seq ?_
      refine WC.region ?_
      refine WL.op (d := 29) (.bool true) (k := ?_)
      refine WL.op (d := 4) (.bool true) (k := ?_)
      refine WL.nil ?_
      refine WX.seqN ?_
      refine WC.ret ?_
      refine WX.seqR ?_
      refine WX.ret (rs := [.tmp 4]) [.bool true] (.bool true) ⟨(by kernel_rfl), trivial⟩ (k := ?_)
      exact ⟨rfl, K⟩
    · have h52 : (decide (GOp.ok (GOp.bare p))) = true := by simpa using h50
      have ph52 := of_decide_eq_true h52
      refine WC.skip ?_
      refine WX.seqN ?_
      refine WC.seq ?_
      refine WC.region ?_
      refine WL.load (v := GOp.val (GOp.bare o)) (ldN (T := 46) (i := 0) (m := 10) (l := (Value.cells (GOp.val (GOp.bare o))).toList) hb27) (k := ?_)
      refine WL.callG (d := 32) (f := 43) (args := #[GOp.val (GOp.bare o)]) (pBytes_ok (GOp.bare o) ph49 w45) (k := fun e_ w53 h_ => ⟨.tuple #[.string ⟨(GOp.enc (GOp.bare o)).toArray⟩, .int .i64 0], h_.1, ?_⟩)
      have k54 := h_.2; clear h_
      replace hb4 := k54.heap hb4 id
      replace hb10 := k54.heap hb10 id
      replace hb27 := k54.heap hb27 id
      replace hb41 := k54.heap hb41 id
      replace K := K.trans (k54.any _)
      refine WL.op (d := 30) (.tuple #[.string ⟨(GOp.enc (GOp.bare o)).toArray⟩, .int .i64 0]) (k := ?_)
      refine WL.op (d := 33) (.string ⟨(GOp.enc (GOp.bare o)).toArray⟩) (k := ?_)
      refine WL.op (d := 34) (.int .i64 0) (k := ?_)
      refine WL.op (d := 10) (.string ⟨(GOp.enc (GOp.bare o)).toArray⟩) (k := ?_)
      refine WL.op (d := 11) (.int .i64 0) (k := ?_)
      refine WL.nil ?_
      refine WX.seqN ?_
      refine WC.seq ?_
      refine WC.region ?_
      refine WL.load (v := GOp.val (GOp.bare p)) (ldN (T := 46) (i := 0) (m := 10) (l := (Value.cells (GOp.val (GOp.bare p))).toList) hb41) (k := ?_)
      refine WL.callG (d := 37) (f := 43) (args := #[GOp.val (GOp.bare p)]) (pBytes_ok (GOp.bare p) ph52 w53) (k := fun e_ w55 h_ => ⟨.tuple #[.string ⟨(GOp.enc (GOp.bare p)).toArray⟩, .int .i64 0], h_.1, ?_⟩)
      have k56 := h_.2; clear h_
      replace hb4 := k56.heap hb4 id
      replace hb10 := k56.heap hb10 id
      replace hb27 := k56.heap hb27 id
      replace hb41 := k56.heap hb41 id
      replace K := K.trans (k56.any _)
      refine WL.op (d := 35) (.tuple #[.string ⟨(GOp.enc (GOp.bare p)).toArray⟩, .int .i64 0]) (k := ?_)
      refine WL.op (d := 38) (.string ⟨(GOp.enc (GOp.bare p)).toArray⟩) (k := ?_)
      refine WL.op (d := 39) (.int .i64 0) (k := ?_)
      refine WL.op (d := 12) (.string ⟨(GOp.enc (GOp.bare p)).toArray⟩) (k := ?_)
      refine WL.op (d := 13) (.int .i64 0) (k := ?_)
      refine WL.nil ?_
      refine WX.seqN ?_
      refine WC.seq ?_
      refine WC.region ?_
      refine WL.op (d := 40) (.bool true) (k := ?_)
      refine WL.op (d := 41) (.bool true) (k := ?_)
      refine WL.op (d := 42) (.int .i64 0) (k := ?_)
      refine WL.op (d := 43) (.bool true) (k := ?_)
      refine WL.op (d := 44) (.bool true) (k := ?_)
      refine WL.op (d := 45) (.bool true) (k := ?_)
      refine WL.op (d := 46) (.int .i64 0) (k := ?_)
      refine WL.op (d := 47) (.bool true) (k := ?_)
      refine WL.op (d := 48) (.bool true) (k := ?_)
      refine WL.op (d := 49) (.bool true) (k := ?_)
      refine WL.op (d := 50) (.string ⟨(GOp.enc (GOp.bare o)).toArray⟩) (k := ?_)
      refine WL.op (d := 51) (.string ⟨(GOp.enc (GOp.bare p)).toArray⟩) (k := ?_)
      refine WL.opE (d := 52) (.bool (ByteArray.toList ⟨(GOp.enc (GOp.bare o)).toArray⟩ == ByteArray.toList ⟨(GOp.enc (GOp.bare p)).toArray⟩)) (v := .bool (decide (GOp.enc (GOp.bare o) = GOp.enc (GOp.bare p)))) (str_eql _ _) (k := ?_)
      refine WL.load (v := GOp.val (GOp.bare o)) (ldN (T := 46) (i := 0) (m := 10) (l := (Value.cells (GOp.val (GOp.bare o))).toList) hb27) (k := ?_)
      refine WL.load (v := GOp.val (GOp.bare p)) (ldN (T := 46) (i := 0) (m := 10) (l := (Value.cells (GOp.val (GOp.bare p))).toList) hb41) (k := ?_)
      refine WL.bin (d := 55) (v := .bool (GOp.same (GOp.bare o) (GOp.bare p))) (eqOpV (GOp.bare o) (GOp.bare p) _) (k := ?_)
      refine WL.op (d := 56) (.bool ((decide (GOp.enc (GOp.bare o) = GOp.enc (GOp.bare p))) == (GOp.same (GOp.bare o) (GOp.bare p)))) (k := ?_)
      refine WL.op (d := 57) (.bool ((decide (GOp.enc (GOp.bare o) = GOp.enc (GOp.bare p))) == (GOp.same (GOp.bare o) (GOp.bare p)))) (k := ?_)
      refine WL.op (d := 4) (.bool ((decide (GOp.enc (GOp.bare o) = GOp.enc (GOp.bare p))) == (GOp.same (GOp.bare o) (GOp.bare p)))) (k := ?_)
      refine WL.nil ?_
      refine WX.seqN ?_
      refine WC.ret ?_
      refine WX.ret (rs := [.tmp 4]) [.bool ((decide (GOp.enc (GOp.bare o) = GOp.enc (GOp.bare p))) == (GOp.same (GOp.bare o) (GOp.bare p)))] (.bool ((decide (GOp.enc (GOp.bare o) = GOp.enc (GOp.bare p))) == (GOp.same (GOp.bare o) (GOp.bare p)))) ⟨(by kernel_rfl), trivial⟩ (k := ?_)
      exact ⟨ret_bool (enc_same (by assumption) (by assumption)), K⟩

end Go.Proofs.Ytpkcohhfkeinmaa
