/- The document's Check of ops. -/
import Derived.Test.YtfpdfjbooalgjaaSy0
namespace Go.Proofs.Ytfpdfjbooalgjaa
open Go.RowKit
set_option linter.unusedVariables false
set_option linter.unusedSimpArgs false

set_option maxRecDepth 100000 in
theorem u13Check_c (o : GOp) (w : World) : Calls Try.prog 26 #[o.val] w fun e w' => e = .returned (.bool (decide (GOp.ok o))) ∧ Adds w w' := by
  have K : Keeps (fun _ => False) w w := Keeps.refl _ w
  refine Calls.start Try.func26 rfl (by kernel_rfl) ?_
  refine WC.seq ?_
  refine WC.region ?_
  refine WL.new (d := 1) (T := 29) (Value.cells (GOp.val o)) (k := fun b1 w2 g3 hb4 k5 => ?_)
  have z6 := Nat.le_trans K.size g3
  replace K := K.trans (k5.any _)
  refine WL.op (d := 2) (.bool false) (k := ?_)
  refine WL.nil ?_
  refine WX.seqN ?_
  refine WC.seq ?_
  refine WC.seq ?_
  refine WC.quiet (k := ?_)
  refine WQ.load (v := GOp.val o) (fun w_ k_ => ldN (T := 29) (i := 0) (m := 10) (l := (Value.cells (GOp.val o)).toList) (k_.heap hb4 id)) (k := ?_)
  refine WQ.load (v := GOp.val o) (fun w_ k_ => ldN (T := 29) (i := 0) (m := 10) (l := (Value.cells (GOp.val o)).toList) (k_.heap hb4 id)) (k := ?_)
  refine WQ.callG (d := 6) (f := 39) (args := #[GOp.val o]) (v := GOp.val (GOp.bare o)) (fun w_ k_ => u13Bare_c o w_) addsR (k := ?_)
  refine WQ.bin (d := 7) (v := .bool (!(GOp.same o (GOp.bare o)))) (fun w_ => neqOpV o (GOp.bare o) w_) (k := ?_)
  refine WQ.op (d := 8) (.bool (!(GOp.same o (GOp.bare o)))) (k := ?_)
  refine bsplit (!(GOp.same o (GOp.bare o))) (fun h7 => ?_) (fun h7 => ?_)
  · have h8 : (GOp.same o (GOp.bare o)) = false := by simpa using h7
    refine WQ.rw (t := 8) (v := .bool true) (congrArg Value.bool h7) (k := ?_)
    refine WQ.skip (d := 9) (k := ?_)
    refine WQ.skip (d := 10) (k := ?_)
    refine WQ.skip (d := 11) (k := ?_)
    refine WQ.op (d := 12) (.bool true) (k := ?_)
    refine WQ.op (d := 13) (.bool true) (k := ?_)
    refine WQ.skip (d := 14) (k := ?_)
    refine WQ.skip (d := 15) (k := ?_)
    refine WQ.skip (d := 16) (k := ?_)
    refine WQ.op (d := 17) (.bool true) (k := ?_)
    refine WQ.nilX (fun w9 k10 => ?_)
    replace hb4 := k10.heap hb4 id
    replace K := K.trans (k10.any _)
    refine WX.seqN ?_
    refine WC.condT (k := ?_)
    refine WC.seq ?_
    refine WC.region ?_
    refine WL.op (d := 2) (.bool false) (k := ?_)
    refine WL.nil ?_
    refine WX.seqN ?_
    refine WC.ret ?_
    refine WX.seqR ?_
    refine WX.ret (rs := [.tmp 2]) [.bool false] (.bool false) ⟨(by kernel_rfl), trivial⟩ (k := ?_)
    exact ⟨ret_bool (ok_ne (same_false h8)), K⟩
  · have h11 : (GOp.same o (GOp.bare o)) = true := by simpa using h7
    refine WQ.rw (t := 8) (v := .bool false) (congrArg Value.bool h7) (k := ?_)
    refine WQ.op (d := 9) (.pointer (some ⟨b1, 7, none⟩)) (k := ?_)
    refine WQ.load (v := .int .i64 o.id) (fun w_ k_ => ld1 (T := 3) (i := 7) (k_.heap hb4 id)) (k := ?_)
    refine WQ.op (d := 11) (.bool (decide (o.id < 0))) (k := ?_)
    refine WQ.op (d := 12) (.bool (decide (o.id < 0))) (k := ?_)
    refine WQ.op (d := 13) (.bool (decide (o.id < 0))) (k := ?_)
    refine bsplit (decide (o.id < 0)) (fun h12 => ?_) (fun h12 => ?_)
    · have ph12 := of_decide_eq_true h12
      refine WQ.rw (t := 13) (v := .bool true) (congrArg Value.bool h12) (k := ?_)
      refine WQ.skip (d := 14) (k := ?_)
      refine WQ.skip (d := 15) (k := ?_)
      refine WQ.skip (d := 16) (k := ?_)
      refine WQ.op (d := 17) (.bool true) (k := ?_)
      refine WQ.nilX (fun w13 k14 => ?_)
      replace hb4 := k14.heap hb4 id
      replace K := K.trans (k14.any _)
      refine WX.seqN ?_
      refine WC.condT (k := ?_)
      refine WC.seq ?_
      refine WC.region ?_
      refine WL.op (d := 2) (.bool false) (k := ?_)
      refine WL.nil ?_
      refine WX.seqN ?_
      refine WC.ret ?_
      refine WX.seqR ?_
      refine WX.ret (rs := [.tmp 2]) [.bool false] (.bool false) ⟨(by kernel_rfl), trivial⟩ (k := ?_)
      exact ⟨ret_bool (ok_lo (same_true h11) ph12), K⟩
    · have ph12 := of_decide_eq_false h12
      refine WQ.rw (t := 13) (v := .bool false) (congrArg Value.bool h12) (k := ?_)
      refine WQ.op (d := 14) (.pointer (some ⟨b1, 7, none⟩)) (k := ?_)
      refine WQ.load (v := .int .i64 o.id) (fun w_ k_ => ld1 (T := 3) (i := 7) (k_.heap hb4 id)) (k := ?_)
      refine WQ.op (d := 16) (.bool (decide (o.id > 1023))) (k := ?_)
      refine WQ.op (d := 17) (.bool (decide (o.id > 1023))) (k := ?_)
      refine WQ.nilX (fun w15 k16 => ?_)
      replace hb4 := k16.heap hb4 id
      replace K := K.trans (k16.any _)
      refine WX.seqN ?_
      refine WC.cond (b := decide (o.id > 1023)) (ht := fun h17 => ?_) (hf := fun h17 => ?_)
      · have ph17 := of_decide_eq_true h17
        refine WC.seq ?_
        refine WC.region ?_
        refine WL.op (d := 2) (.bool false) (k := ?_)
        refine WL.nil ?_
        refine WX.seqN ?_
        refine WC.ret ?_
        refine WX.seqR ?_
        refine WX.ret (rs := [.tmp 2]) [.bool false] (.bool false) ⟨(by kernel_rfl), trivial⟩ (k := ?_)
        exact ⟨ret_bool (ok_hi (same_true h11) ph17), K⟩
      · have ph17 := of_decide_eq_false h17
        refine WC.skip ?_
        refine WX.seqN ?_
        refine WC.seq ?_
        refine WC.seq ?_
        refine WC.region ?_
        refine WL.op (d := 18) (.pointer (some ⟨b1, 0, none⟩)) (k := ?_)
        refine WL.load (v := .int .i64 o.kind) (ld1 (T := 3) (i := 0) hb4) (k := ?_)
        refine WL.nil ?_
        refine WX.seqN ?_
        refine WC.block ?_
        refine WC.seq ?_
        refine WC.region ?_
        refine WL.op (d := 21) (.bool (o.kind == 1)) (k := ?_)
        refine WL.op (d := 20) (.bool (o.kind == 1)) (k := ?_)
        refine WL.nil ?_
        refine WX.seqN ?_
        refine WC.cond (b := o.kind == 1) (ht := fun h18 => ?_) (hf := fun h18 => ?_)
        · have ph18 := eq_of_beq h18
          refine WC.seq ?_
          refine WC.region ?_
          refine WL.op (d := 22) (.pointer (some ⟨b1, 1, none⟩)) (k := ?_)
          refine WL.load (v := GTask.val o.task) (ldN (T := 27) (i := 1) (m := 5) (l := (Value.cells (GTask.val o.task)).toList) hb4) (k := ?_)
          refine WL.callG (d := 24) (f := 40) (args := #[GTask.val o.task]) (u09Check_c o.task w15) (k := fun e_ w19 h_ => ⟨.bool (decide (GTask.ok o.task)), h_.1, ?_⟩)
          have k20 := h_.2; clear h_
          replace hb4 := k20.heap hb4 id
          replace K := K.trans (k20.any _)
          refine WL.op (d := 3) (.bool (decide (GTask.ok o.task))) (k := ?_)
          refine WL.nil ?_
          refine WX.seqN ?_
          refine WC.seq ?_
          refine WC.region ?_
          refine WL.op (d := 25) (.bool (decide (GTask.ok o.task))) (k := ?_)
          refine WL.op (d := 26) (.bool (decide (GTask.ok o.task))) (k := ?_)
          refine bsplit (decide (GTask.ok o.task)) (fun h21 => ?_) (fun h21 => ?_)
          · have ph21 := of_decide_eq_true h21
            refine WL.rw (t := 26) (v := .bool true) (congrArg Value.bool h21) (k := ?_)
            refine WL.op (d := 27) (.pointer (some ⟨b1, 6, none⟩)) (k := ?_)
            refine WL.load (v := .bool o.sv) (ld1 (T := 4) (i := 6) hb4) (k := ?_)
            refine WL.op (d := 29) (.bool (!(o.sv))) (k := ?_)
            refine WL.op (d := 30) (.bool (!(o.sv))) (k := ?_)
            refine bsplit (!(o.sv)) (fun h22 => ?_) (fun h22 => ?_)
            · have h23 : (o.sv) = false := by simpa using h22
              refine WL.rw (t := 30) (v := .bool true) (congrArg Value.bool h22) (k := ?_)
              refine WL.skip (d := 31) (k := ?_)
              refine WL.skip (d := 32) (k := ?_)
              refine WL.skip (d := 33) (k := ?_)
              refine WL.skip (d := 34) (k := ?_)
              refine WL.skip (d := 35) (k := ?_)
              refine WL.skip (d := 36) (k := ?_)
              refine WL.skip (d := 37) (k := ?_)
              refine WL.op (d := 38) (.bool true) (k := ?_)
              refine WL.op (d := 39) (.bool true) (k := ?_)
              refine WL.op (d := 2) (.bool true) (k := ?_)
              refine WL.nil ?_
              refine WX.seqN ?_
              refine WC.ret ?_
              refine WX.blockR ?_
              refine WX.seqR ?_
              refine WX.ret (rs := [.tmp 2]) [.bool true] (.bool true) ⟨(by kernel_rfl), trivial⟩ (k := ?_)
              refine ⟨ret_bool ?_, K⟩
              rw [ok_eq (same_true h11), Bool.eq_iff_iff]
              simp [GOp.right, ph12, ph17, ph18, ph21, h23]
              try omega
            · have h24 : (o.sv) = true := by simpa using h22
              refine WL.rw (t := 30) (v := .bool false) (congrArg Value.bool h22) (k := ?_)
              refine WL.op (d := 31) (.pointer (some ⟨b1, 1, none⟩)) (k := ?_)
              refine WL.op (d := 32) (.pointer (some ⟨b1, 3, none⟩)) (k := ?_)
              refine WL.load (v := .int .i64 o.task.d) (ld1 (T := 2) (i := 3) hb4) (k := ?_)
              refine WL.op (d := 34) (.pointer (some ⟨b1, 1, none⟩)) (k := ?_)
              refine WL.op (d := 35) (.pointer (some ⟨b1, 4, none⟩)) (k := ?_)
              refine WL.load (v := .int .i64 o.task.t) (ld1 (T := 2) (i := 4) hb4) (k := ?_)
              refine WL.op (d := 37) (.bool (o.task.d == o.task.t)) (k := ?_)
              refine WL.op (d := 38) (.bool (o.task.d == o.task.t)) (k := ?_)
              refine WL.op (d := 39) (.bool (o.task.d == o.task.t)) (k := ?_)
              refine WL.op (d := 2) (.bool (o.task.d == o.task.t)) (k := ?_)
              refine WL.nil ?_
              refine WX.seqN ?_
              refine WC.ret ?_
              refine WX.blockR ?_
              refine WX.seqR ?_
              refine WX.ret (rs := [.tmp 2]) [.bool (o.task.d == o.task.t)] (.bool (o.task.d == o.task.t)) ⟨(by kernel_rfl), trivial⟩ (k := ?_)
              refine ⟨ret_bool ?_, K⟩
              rw [ok_eq (same_true h11), Bool.eq_iff_iff]
              simp [GOp.right, ph12, ph17, ph18, ph21, h24]
              try omega
          · have ph21 := of_decide_eq_false h21
            refine WL.rw (t := 26) (v := .bool false) (congrArg Value.bool h21) (k := ?_)
            refine WL.skip (d := 27) (k := ?_)
            refine WL.skip (d := 28) (k := ?_)
            refine WL.skip (d := 29) (k := ?_)
            refine WL.skip (d := 30) (k := ?_)
            refine WL.skip (d := 31) (k := ?_)
            refine WL.skip (d := 32) (k := ?_)
            refine WL.skip (d := 33) (k := ?_)
            refine WL.skip (d := 34) (k := ?_)
            refine WL.skip (d := 35) (k := ?_)
            refine WL.skip (d := 36) (k := ?_)
            refine WL.skip (d := 37) (k := ?_)
            refine WL.skip (d := 38) (k := ?_)
            refine WL.op (d := 39) (.bool false) (k := ?_)
            refine WL.op (d := 2) (.bool false) (k := ?_)
            refine WL.nil ?_
            refine WX.seqN ?_
            refine WC.ret ?_
            refine WX.blockR ?_
            refine WX.seqR ?_
            refine WX.ret (rs := [.tmp 2]) [.bool false] (.bool false) ⟨(by kernel_rfl), trivial⟩ (k := ?_)
            refine ⟨ret_bool ?_, K⟩
            rw [ok_eq (same_true h11), Bool.eq_iff_iff]
            simp [GOp.right, ph12, ph17, ph18, ph21]
            try omega
        · have ph18 := ne_of_beq_false h18
          refine WC.seq ?_
          refine WC.region ?_
          refine WL.op (d := 41) (.bool (o.kind == 2)) (k := ?_)
          refine WL.op (d := 40) (.bool (o.kind == 2)) (k := ?_)
          refine WL.nil ?_
          refine WX.seqN ?_
          refine WC.cond (b := o.kind == 2) (ht := fun h25 => ?_) (hf := fun h25 => ?_)
          · have ph25 := eq_of_beq h25
            refine WC.seq ?_
            refine WC.region ?_
            refine WL.op (d := 2) (.bool true) (k := ?_)
            refine WL.nil ?_
            refine WX.seqN ?_
            refine WC.ret ?_
            refine WX.blockR ?_
            refine WX.seqR ?_
            refine WX.ret (rs := [.tmp 2]) [.bool true] (.bool true) ⟨(by kernel_rfl), trivial⟩ (k := ?_)
            refine ⟨ret_bool ?_, K⟩
            rw [ok_eq (same_true h11), Bool.eq_iff_iff]
            simp [GOp.right, ph12, ph17, ph18, ph25]
            try omega
          · have ph25 := ne_of_beq_false h25
            refine WC.seq ?_
            refine WC.region ?_
            refine WL.op (d := 43) (.bool (o.kind == 3)) (k := ?_)
            refine WL.op (d := 42) (.bool (o.kind == 3)) (k := ?_)
            refine WL.nil ?_
            refine WX.seqN ?_
            refine WC.cond (b := o.kind == 3) (ht := fun h26 => ?_) (hf := fun h26 => ?_)
            · have ph26 := eq_of_beq h26
              refine WC.seq ?_
              refine WC.region ?_
              refine WL.op (d := 44) (.pointer (some ⟨b1, 8, none⟩)) (k := ?_)
              refine WL.load (v := .int .i64 o.c) (ld1 (T := 2) (i := 8) hb4) (k := ?_)
              refine WL.op (d := 46) (.bool (decide (o.c ≥ 1))) (k := ?_)
              refine WL.op (d := 47) (.bool (decide (o.c ≥ 1))) (k := ?_)
              refine bsplit (decide (o.c ≥ 1)) (fun h27 => ?_) (fun h27 => ?_)
              · have ph27 := of_decide_eq_true h27
                refine WL.rw (t := 47) (v := .bool true) (congrArg Value.bool h27) (k := ?_)
                refine WL.op (d := 48) (.pointer (some ⟨b1, 8, none⟩)) (k := ?_)
                refine WL.load (v := .int .i64 o.c) (ld1 (T := 2) (i := 8) hb4) (k := ?_)
                refine WL.op (d := 50) (.bool (decide (o.c ≤ 2147483648))) (k := ?_)
                refine WL.op (d := 51) (.bool (decide (o.c ≤ 2147483648))) (k := ?_)
                refine WL.op (d := 2) (.bool (decide (o.c ≤ 2147483648))) (k := ?_)
                refine WL.nil ?_
                refine WX.seqN ?_
                refine WC.ret ?_
                refine WX.blockR ?_
                refine WX.seqR ?_
                refine WX.ret (rs := [.tmp 2]) [.bool (decide (o.c ≤ 2147483648))] (.bool (decide (o.c ≤ 2147483648))) ⟨(by kernel_rfl), trivial⟩ (k := ?_)
                refine ⟨ret_bool ?_, K⟩
                rw [ok_eq (same_true h11), Bool.eq_iff_iff]
                simp [GOp.right, ph12, ph17, ph18, ph25, ph26, ph27]
                try omega
              · have ph27 := of_decide_eq_false h27
                refine WL.rw (t := 47) (v := .bool false) (congrArg Value.bool h27) (k := ?_)
                refine WL.skip (d := 48) (k := ?_)
                refine WL.skip (d := 49) (k := ?_)
                refine WL.skip (d := 50) (k := ?_)
                refine WL.op (d := 51) (.bool false) (k := ?_)
                refine WL.op (d := 2) (.bool false) (k := ?_)
                refine WL.nil ?_
                refine WX.seqN ?_
                refine WC.ret ?_
                refine WX.blockR ?_
                refine WX.seqR ?_
                refine WX.ret (rs := [.tmp 2]) [.bool false] (.bool false) ⟨(by kernel_rfl), trivial⟩ (k := ?_)
                refine ⟨ret_bool ?_, K⟩
                rw [ok_eq (same_true h11), Bool.eq_iff_iff]
                simp [GOp.right, ph12, ph17, ph18, ph25, ph26, ph27]
                try omega
            · have ph26 := ne_of_beq_false h26
              refine WC.seq ?_
              refine WC.region ?_
              refine WL.op (d := 53) (.bool (o.kind == 4)) (k := ?_)
              refine WL.op (d := 52) (.bool (o.kind == 4)) (k := ?_)
              refine WL.nil ?_
              refine WX.seqN ?_
              refine WC.cond (b := o.kind == 4) (ht := fun h28 => ?_) (hf := fun h28 => ?_)
              · have ph28 := eq_of_beq h28
                refine WC.seq ?_
                refine WC.region ?_
                refine WL.op (d := 54) (.pointer (some ⟨b1, 9, none⟩)) (k := ?_)
                refine WL.load (v := .int .i64 o.m) (ld1 (T := 3) (i := 9) hb4) (k := ?_)
                refine WL.op (d := 56) (.bool (decide (o.m ≥ 0))) (k := ?_)
                refine WL.op (d := 57) (.bool (decide (o.m ≥ 0))) (k := ?_)
                refine bsplit (decide (o.m ≥ 0)) (fun h29 => ?_) (fun h29 => ?_)
                · have ph29 := of_decide_eq_true h29
                  refine WL.rw (t := 57) (v := .bool true) (congrArg Value.bool h29) (k := ?_)
                  refine WL.op (d := 58) (.pointer (some ⟨b1, 9, none⟩)) (k := ?_)
                  refine WL.load (v := .int .i64 o.m) (ld1 (T := 3) (i := 9) hb4) (k := ?_)
                  refine WL.op (d := 60) (.bool (decide (o.m ≤ 3))) (k := ?_)
                  refine WL.op (d := 61) (.bool (decide (o.m ≤ 3))) (k := ?_)
                  refine WL.op (d := 2) (.bool (decide (o.m ≤ 3))) (k := ?_)
                  refine WL.nil ?_
                  refine WX.seqN ?_
                  refine WC.ret ?_
                  refine WX.blockR ?_
                  refine WX.seqR ?_
                  refine WX.ret (rs := [.tmp 2]) [.bool (decide (o.m ≤ 3))] (.bool (decide (o.m ≤ 3))) ⟨(by kernel_rfl), trivial⟩ (k := ?_)
                  refine ⟨ret_bool ?_, K⟩
                  rw [ok_eq (same_true h11), Bool.eq_iff_iff]
                  simp [GOp.right, ph12, ph17, ph18, ph25, ph26, ph28, ph29]
                  try omega
                · have ph29 := of_decide_eq_false h29
                  refine WL.rw (t := 57) (v := .bool false) (congrArg Value.bool h29) (k := ?_)
                  refine WL.skip (d := 58) (k := ?_)
                  refine WL.skip (d := 59) (k := ?_)
                  refine WL.skip (d := 60) (k := ?_)
                  refine WL.op (d := 61) (.bool false) (k := ?_)
                  refine WL.op (d := 2) (.bool false) (k := ?_)
                  refine WL.nil ?_
                  refine WX.seqN ?_
                  refine WC.ret ?_
                  refine WX.blockR ?_
                  refine WX.seqR ?_
                  refine WX.ret (rs := [.tmp 2]) [.bool false] (.bool false) ⟨(by kernel_rfl), trivial⟩ (k := ?_)
                  refine ⟨ret_bool ?_, K⟩
                  rw [ok_eq (same_true h11), Bool.eq_iff_iff]
                  simp [GOp.right, ph12, ph17, ph18, ph25, ph26, ph28, ph29]
                  try omega
              · have ph28 := ne_of_beq_false h28
                refine WC.skip ?_
                refine WX.blockN ?_
                refine WX.seqN ?_
                refine WC.seq ?_
                refine WC.region ?_
                refine WL.op (d := 2) (.bool false) (k := ?_)
                refine WL.nil ?_
                refine WX.seqN ?_
                refine WC.ret ?_
                refine WX.ret (rs := [.tmp 2]) [.bool false] (.bool false) ⟨(by kernel_rfl), trivial⟩ (k := ?_)
                refine ⟨ret_bool ?_, K⟩
                rw [ok_eq (same_true h11), Bool.eq_iff_iff]
                simp [GOp.right, ph12, ph17, ph18, ph25, ph26, ph28]
                try omega

set_option maxRecDepth 100000 in
theorem u13Bytes_no (o : GOp) (hok : ¬ o.ok) (w : World) : Calls Try.prog 48 #[o.val] w fun e w' => e = .returned (.tuple #[.string ⟨#[]⟩, .int .i64 1]) ∧ Adds w w' := by
  have K : Keeps (fun _ => False) w w := Keeps.refl _ w
  have hd : decide (GOp.ok o) = false := decide_eq_false hok
  refine Calls.start Try.func48 rfl (by kernel_rfl) ?_
  refine WC.seq ?_
  refine WC.region ?_
  refine WL.new (d := 1) (T := 29) (Value.cells (GOp.val o)) (k := fun b1 w2 g3 hb4 k5 => ?_)
  have z6 := Nat.le_trans K.size g3
  replace K := K.trans (k5.any _)
  refine WL.op (d := 2) (.string ⟨#[]⟩) (k := ?_)
  refine WL.op (d := 3) (.int .i64 0) (k := ?_)
  refine WL.nil ?_
  refine WX.seqN ?_
  refine WC.seq ?_
  refine WC.region ?_
  refine WL.load (v := GOp.val o) (ldN (T := 29) (i := 0) (m := 10) (l := (Value.cells (GOp.val o)).toList) hb4) (k := ?_)
  refine WL.callG (d := 8) (f := 26) (args := #[GOp.val o]) (u13Check_c o w2) (k := fun e_ w7 h_ => ⟨.bool (decide (GOp.ok o)), h_.1, ?_⟩)
  have k8 := h_.2; clear h_
  replace hb4 := k8.heap hb4 id
  replace K := K.trans (k8.any _)
  refine WL.op (d := 4) (.bool (decide (GOp.ok o))) (k := ?_)
  refine WL.nil ?_
  refine WX.seqN ?_
  refine WC.seq ?_
  refine WC.seq ?_
  refine WC.region ?_
  refine WL.op (d := 9) (.bool (decide (GOp.ok o))) (k := ?_)
  refine WL.op (d := 10) (.bool (!(decide (GOp.ok o)))) (k := ?_)
  refine WL.nil ?_
  refine WX.seqN ?_
  refine WC.rw (t := 10) (v := .bool true) (congrArg Value.bool (congrArg Bool.not hd)) (k := ?_)
  refine WC.condT (k := ?_)
  refine WC.seq ?_
  refine WC.region ?_
  refine WL.op (d := 2) (.string ⟨#[]⟩) (k := ?_)
  refine WL.op (d := 3) (.int .i64 1) (k := ?_)
  refine WL.nil ?_
  refine WX.seqN ?_
  refine WC.ret ?_
  refine WX.seqR ?_
  refine WX.ret (rs := [.tmp 2, .tmp 3]) [.string ⟨#[]⟩, .int .i64 1] (.tuple #[.string ⟨#[]⟩, .int .i64 1]) ⟨(by kernel_rfl), (by kernel_rfl), trivial⟩ (k := ?_)
  exact ⟨rfl, K⟩

set_option maxRecDepth 100000 in
theorem u13Bytes_ok (o : GOp) (hok : o.ok) (w : World) : Calls Try.prog 48 #[o.val] w fun e w' => e = .returned (.tuple #[.string ⟨o.enc.toArray⟩, .int .i64 0]) ∧ Adds w w' := by
  have K : Keeps (fun _ => False) w w := Keeps.refl _ w
  have hd : decide (GOp.ok o) = true := decide_eq_true hok
  obtain ⟨kl, kh, il, ih, cl, ch, ml, mh, tidl, tidh, tcl, tch, tdl, tdh, ttl, tth, tml, tmh⟩ := hok.b
  refine Calls.start Try.func48 rfl (by kernel_rfl) ?_
  refine WC.seq ?_
  refine WC.region ?_
  refine WL.new (d := 1) (T := 29) (Value.cells (GOp.val o)) (k := fun b1 w2 g3 hb4 k5 => ?_)
  have z6 := Nat.le_trans K.size g3
  replace K := K.trans (k5.any _)
  refine WL.op (d := 2) (.string ⟨#[]⟩) (k := ?_)
  refine WL.op (d := 3) (.int .i64 0) (k := ?_)
  refine WL.nil ?_
  refine WX.seqN ?_
  refine WC.seq ?_
  refine WC.region ?_
  refine WL.load (v := GOp.val o) (ldN (T := 29) (i := 0) (m := 10) (l := (Value.cells (GOp.val o)).toList) hb4) (k := ?_)
  refine WL.callG (d := 8) (f := 26) (args := #[GOp.val o]) (u13Check_c o w2) (k := fun e_ w7 h_ => ⟨.bool (decide (GOp.ok o)), h_.1, ?_⟩)
  have k8 := h_.2; clear h_
  replace hb4 := k8.heap hb4 id
  replace K := K.trans (k8.any _)
  refine WL.op (d := 4) (.bool (decide (GOp.ok o))) (k := ?_)
  refine WL.nil ?_
  refine WX.seqN ?_
  refine WC.seq ?_
  refine WC.seq ?_
  refine WC.region ?_
  refine WL.op (d := 9) (.bool (decide (GOp.ok o))) (k := ?_)
  refine WL.op (d := 10) (.bool (!(decide (GOp.ok o)))) (k := ?_)
  refine WL.nil ?_
  refine WX.seqN ?_
  refine WC.rw (t := 10) (v := .bool false) (congrArg Value.bool (congrArg Bool.not hd)) (k := ?_)
  refine WC.condF (k := ?_)
  refine WC.skip ?_
  refine WX.seqN ?_
  refine WC.seq ?_
  refine WC.region ?_
  refine WL.op (d := 11) (.pointer (some ⟨b1, 0, none⟩)) (k := ?_)
  refine WL.load (v := .int .i64 o.kind) (ld1 (T := 3) (i := 0) hb4) (k := ?_)
  refine WL.callG (d := 13) (f := 47) (args := #[.int .i64 o.kind]) (qIntS_any o.kind (by omega) w7) (k := fun e_ w10 h_ => ⟨.string ⟨(encNum (Int.toNat o.kind)).toArray⟩, h_.1, ?_⟩)
  have k11 := h_.2; clear h_
  replace hb4 := k11.heap hb4 id
  replace K := K.trans (k11.any _)
  have ln9 := encNum_len (Int.toNat o.kind) (by omega)
  refine WL.op (d := 5) (.string ⟨(encNum (Int.toNat o.kind)).toArray⟩) (k := ?_)
  refine WL.nil ?_
  refine WX.seqN ?_
  refine WC.seq ?_
  refine WC.seq ?_
  refine WC.region ?_
  refine WL.op (d := 14) (.pointer (some ⟨b1, 0, none⟩)) (k := ?_)
  refine WL.load (v := .int .i64 o.kind) (ld1 (T := 3) (i := 0) hb4) (k := ?_)
  refine WL.nil ?_
  refine WX.seqN ?_
  refine WC.block ?_
  refine WC.seq ?_
  refine WC.region ?_
  refine WL.op (d := 17) (.bool (o.kind == 1)) (k := ?_)
  refine WL.op (d := 16) (.bool (o.kind == 1)) (k := ?_)
  refine WL.nil ?_
  refine WX.seqN ?_
  refine WC.cond (b := o.kind == 1) (ht := fun h12 => ?_) (hf := fun h12 => ?_)
  · have ph12 := eq_of_beq h12
    refine WC.seq ?_
    refine WC.region ?_
    refine WL.op (d := 18) (.pointer (some ⟨b1, 1, none⟩)) (k := ?_)
    refine WL.load (v := GTask.val o.task) (ldN (T := 27) (i := 1) (m := 5) (l := (Value.cells (GTask.val o.task)).toList) hb4) (k := ?_)
    refine WL.new (d := 6) (T := 27) #[.int .i64 0, .int .i64 0, .int .i64 0, .int .i64 0, .int .i64 0] (k := fun b13 w14 g15 hb16 k17 => ?_)
    have z18 := Nat.le_trans K.size g15
    have n19 : b1 ≠ b13 := Nat.ne_of_lt (Nat.lt_of_lt_of_le (lt_of_heap hb4) g15)
    replace hb4 := k17.heap hb4 id
    replace K := K.trans (k17.any _)
    refine WL.store (v := GTask.val o.task) (i := 0) (cs' := (Value.cells (GTask.val o.task))) hb16 (k := fun w20 hb21 k22 => ?_)
    replace hb4 := k22.heap hb4 n19
    replace K := K.trans' k22 (fun i hi e => absurd (e ▸ hi) (Nat.not_lt.2 z18))
    clear hb16
    refine WL.nil ?_
    refine WX.seqN ?_
    refine WC.seq ?_
    refine WC.quiet (k := ?_)
    refine WQ.op (d := 20) (.string ⟨(encNum (Int.toNat o.kind)).toArray⟩) (k := ?_)
    refine WQ.op (d := 21) (.pointer (some ⟨b13, 0, none⟩)) (k := ?_)
    refine WQ.load (v := .int .i64 o.task.id) (fun w_ k_ => ld1 (T := 3) (i := 0) (k_.heap hb21 id)) (k := ?_)
    refine WQ.callG (d := 23) (f := 47) (args := #[.int .i64 o.task.id]) (v := .string ⟨(encNum (Int.toNat o.task.id)).toArray⟩) (fun w_ k_ => qIntS_any o.task.id (by omega) w_) addsR (k := ?_)
    have ln23 := encNum_len (Int.toNat o.task.id) (by omega)
    refine WQ.bin (d := 24) (v := .string ⟨((encNum (Int.toNat o.kind)) ++ (encNum (Int.toNat o.task.id))).toArray⟩) (fun _ => cat_run (by (try simp only [List.length_append, List.length_cons, List.length_nil]); omega)) (k := ?_)
    refine WQ.op (d := 25) (.pointer (some ⟨b13, 1, none⟩)) (k := ?_)
    refine WQ.load (v := .int .i64 o.task.c) (fun w_ k_ => ld1 (T := 2) (i := 1) (k_.heap hb21 id)) (k := ?_)
    refine WQ.opE (d := 27) (.int .u64 (IntKind.u64.wrap o.task.c)) (v := .int .u64 o.task.c) (congrArg (Value.int .u64) (IntWalk.u64_in _ (by omega))) (k := ?_)
    refine WQ.callG (d := 28) (f := 50) (args := #[.int .u64 o.task.c]) (v := .string ⟨(encNum (Int.toNat o.task.c)).toArray⟩) (fun w_ k_ => qNumS_any (Int.toNat o.task.c) o.task.c (by omega) (by omega) w_) addsR (k := ?_)
    have ln24 := encNum_len (Int.toNat o.task.c) (by omega)
    refine WQ.bin (d := 29) (v := .string ⟨((encNum (Int.toNat o.kind)) ++ (encNum (Int.toNat o.task.id)) ++ (encNum (Int.toNat o.task.c))).toArray⟩) (fun _ => cat_run (by (try simp only [List.length_append, List.length_cons, List.length_nil]); omega)) (k := ?_)
    refine WQ.op (d := 30) (.pointer (some ⟨b13, 2, none⟩)) (k := ?_)
    refine WQ.load (v := .int .i64 o.task.d) (fun w_ k_ => ld1 (T := 2) (i := 2) (k_.heap hb21 id)) (k := ?_)
    refine WQ.opE (d := 32) (.int .u64 (IntKind.u64.wrap o.task.d)) (v := .int .u64 o.task.d) (congrArg (Value.int .u64) (IntWalk.u64_in _ (by omega))) (k := ?_)
    refine WQ.callG (d := 33) (f := 50) (args := #[.int .u64 o.task.d]) (v := .string ⟨(encNum (Int.toNat o.task.d)).toArray⟩) (fun w_ k_ => qNumS_any (Int.toNat o.task.d) o.task.d (by omega) (by omega) w_) addsR (k := ?_)
    have ln25 := encNum_len (Int.toNat o.task.d) (by omega)
    refine WQ.bin (d := 34) (v := .string ⟨((encNum (Int.toNat o.kind)) ++ (encNum (Int.toNat o.task.id)) ++ (encNum (Int.toNat o.task.c)) ++ (encNum (Int.toNat o.task.d))).toArray⟩) (fun _ => cat_run (by (try simp only [List.length_append, List.length_cons, List.length_nil]); omega)) (k := ?_)
    refine WQ.op (d := 35) (.pointer (some ⟨b13, 3, none⟩)) (k := ?_)
    refine WQ.load (v := .int .i64 o.task.t) (fun w_ k_ => ld1 (T := 2) (i := 3) (k_.heap hb21 id)) (k := ?_)
    refine WQ.opE (d := 37) (.int .u64 (IntKind.u64.wrap o.task.t)) (v := .int .u64 o.task.t) (congrArg (Value.int .u64) (IntWalk.u64_in _ (by omega))) (k := ?_)
    refine WQ.callG (d := 38) (f := 50) (args := #[.int .u64 o.task.t]) (v := .string ⟨(encNum (Int.toNat o.task.t)).toArray⟩) (fun w_ k_ => qNumS_any (Int.toNat o.task.t) o.task.t (by omega) (by omega) w_) addsR (k := ?_)
    have ln26 := encNum_len (Int.toNat o.task.t) (by omega)
    refine WQ.bin (d := 39) (v := .string ⟨((encNum (Int.toNat o.kind)) ++ (encNum (Int.toNat o.task.id)) ++ (encNum (Int.toNat o.task.c)) ++ (encNum (Int.toNat o.task.d)) ++ (encNum (Int.toNat o.task.t))).toArray⟩) (fun _ => cat_run (by (try simp only [List.length_append, List.length_cons, List.length_nil]); omega)) (k := ?_)
    refine WQ.op (d := 40) (.pointer (some ⟨b13, 4, none⟩)) (k := ?_)
    refine WQ.load (v := .int .i64 o.task.m) (fun w_ k_ => ld1 (T := 3) (i := 4) (k_.heap hb21 id)) (k := ?_)
    refine WQ.callG (d := 42) (f := 47) (args := #[.int .i64 o.task.m]) (v := .string ⟨(encNum (Int.toNat o.task.m)).toArray⟩) (fun w_ k_ => qIntS_any o.task.m (by omega) w_) addsR (k := ?_)
    have ln27 := encNum_len (Int.toNat o.task.m) (by omega)
    refine WQ.bin (d := 43) (v := .string ⟨((encNum (Int.toNat o.kind)) ++ (encNum (Int.toNat o.task.id)) ++ (encNum (Int.toNat o.task.c)) ++ (encNum (Int.toNat o.task.d)) ++ (encNum (Int.toNat o.task.t)) ++ (encNum (Int.toNat o.task.m))).toArray⟩) (fun _ => cat_run (by (try simp only [List.length_append, List.length_cons, List.length_nil]); omega)) (k := ?_)
    refine WQ.op (d := 44) (.pointer (some ⟨b1, 6, none⟩)) (k := ?_)
    refine WQ.load (v := .bool o.sv) (fun w_ k_ => ld1 (T := 4) (i := 6) (k_.heap hb4 id)) (k := ?_)
    refine WQ.callG (d := 46) (f := 63) (args := #[.bool o.sv]) (v := .string ⟨(encFlag o.sv).toArray⟩) (fun w_ k_ => qFlagS_any o.sv w_) addsR (k := ?_)
    have ln28 := encFlag_len o.sv
    refine WQ.bin (d := 47) (v := .string ⟨((encNum (Int.toNat o.kind)) ++ (encNum (Int.toNat o.task.id)) ++ (encNum (Int.toNat o.task.c)) ++ (encNum (Int.toNat o.task.d)) ++ (encNum (Int.toNat o.task.t)) ++ (encNum (Int.toNat o.task.m)) ++ (encFlag o.sv)).toArray⟩) (fun _ => cat_run (by (try simp only [List.length_append, List.length_cons, List.length_nil]); omega)) (k := ?_)
    refine WQ.op (d := 2) (.string ⟨((encNum (Int.toNat o.kind)) ++ (encNum (Int.toNat o.task.id)) ++ (encNum (Int.toNat o.task.c)) ++ (encNum (Int.toNat o.task.d)) ++ (encNum (Int.toNat o.task.t)) ++ (encNum (Int.toNat o.task.m)) ++ (encFlag o.sv)).toArray⟩) (k := ?_)
    refine WQ.op (d := 3) (.int .i64 0) (k := ?_)
    refine WQ.nilX (fun w29 k30 => ?_)
    replace hb4 := k30.heap hb4 id
    replace hb21 := k30.heap hb21 id
    replace K := K.trans (k30.any _)
    refine WX.seqN ?_
    refine WC.ret ?_
    refine WX.blockR ?_
    refine WX.seqR ?_
    refine WX.ret (rs := [.tmp 2, .tmp 3]) [.string ⟨((encNum (Int.toNat o.kind)) ++ (encNum (Int.toNat o.task.id)) ++ (encNum (Int.toNat o.task.c)) ++ (encNum (Int.toNat o.task.d)) ++ (encNum (Int.toNat o.task.t)) ++ (encNum (Int.toNat o.task.m)) ++ (encFlag o.sv)).toArray⟩, .int .i64 0] (.tuple #[.string ⟨((encNum (Int.toNat o.kind)) ++ (encNum (Int.toNat o.task.id)) ++ (encNum (Int.toNat o.task.c)) ++ (encNum (Int.toNat o.task.d)) ++ (encNum (Int.toNat o.task.t)) ++ (encNum (Int.toNat o.task.m)) ++ (encFlag o.sv)).toArray⟩, .int .i64 0]) ⟨(by kernel_rfl), (by kernel_rfl), trivial⟩ (k := ?_)
    refine ⟨congrArg (fun l : List UInt8 => Ending.returned (.tuple #[.string ⟨l.toArray⟩, .int .i64 0])) ?_, K⟩
    simp [GOp.enc, ph12]
  · have ph12 := ne_of_beq_false h12
    refine WC.seq ?_
    refine WC.region ?_
    refine WL.op (d := 49) (.bool (o.kind == 2)) (k := ?_)
    refine WL.op (d := 48) (.bool (o.kind == 2)) (k := ?_)
    refine WL.nil ?_
    refine WX.seqN ?_
    refine WC.cond (b := o.kind == 2) (ht := fun h31 => ?_) (hf := fun h31 => ?_)
    · have ph31 := eq_of_beq h31
      refine WC.seq ?_
      refine WC.region ?_
      refine WL.op (d := 50) (.string ⟨(encNum (Int.toNat o.kind)).toArray⟩) (k := ?_)
      refine WL.op (d := 51) (.pointer (some ⟨b1, 7, none⟩)) (k := ?_)
      refine WL.load (v := .int .i64 o.id) (ld1 (T := 3) (i := 7) hb4) (k := ?_)
      refine WL.callG (d := 53) (f := 47) (args := #[.int .i64 o.id]) (qIntS_any o.id (by omega) w10) (k := fun e_ w33 h_ => ⟨.string ⟨(encNum (Int.toNat o.id)).toArray⟩, h_.1, ?_⟩)
      have k34 := h_.2; clear h_
      replace hb4 := k34.heap hb4 id
      replace K := K.trans (k34.any _)
      have ln32 := encNum_len (Int.toNat o.id) (by omega)
      refine WL.bin (d := 54) (v := .string ⟨((encNum (Int.toNat o.kind)) ++ (encNum (Int.toNat o.id))).toArray⟩) (cat_run (by (try simp only [List.length_append, List.length_cons, List.length_nil]); omega)) (k := ?_)
      refine WL.op (d := 2) (.string ⟨((encNum (Int.toNat o.kind)) ++ (encNum (Int.toNat o.id))).toArray⟩) (k := ?_)
      refine WL.op (d := 3) (.int .i64 0) (k := ?_)
      refine WL.nil ?_
      refine WX.seqN ?_
      refine WC.ret ?_
      refine WX.blockR ?_
      refine WX.seqR ?_
      refine WX.ret (rs := [.tmp 2, .tmp 3]) [.string ⟨((encNum (Int.toNat o.kind)) ++ (encNum (Int.toNat o.id))).toArray⟩, .int .i64 0] (.tuple #[.string ⟨((encNum (Int.toNat o.kind)) ++ (encNum (Int.toNat o.id))).toArray⟩, .int .i64 0]) ⟨(by kernel_rfl), (by kernel_rfl), trivial⟩ (k := ?_)
      refine ⟨congrArg (fun l : List UInt8 => Ending.returned (.tuple #[.string ⟨l.toArray⟩, .int .i64 0])) ?_, K⟩
      simp [GOp.enc, ph12, ph31]
    · have ph31 := ne_of_beq_false h31
      refine WC.seq ?_
      refine WC.region ?_
      refine WL.op (d := 56) (.bool (o.kind == 3)) (k := ?_)
      refine WL.op (d := 55) (.bool (o.kind == 3)) (k := ?_)
      refine WL.nil ?_
      refine WX.seqN ?_
      refine WC.cond (b := o.kind == 3) (ht := fun h35 => ?_) (hf := fun h35 => ?_)
      · have ph35 := eq_of_beq h35
        refine WC.seq ?_
        refine WC.quiet (k := ?_)
        refine WQ.op (d := 57) (.string ⟨(encNum (Int.toNat o.kind)).toArray⟩) (k := ?_)
        refine WQ.op (d := 58) (.pointer (some ⟨b1, 7, none⟩)) (k := ?_)
        refine WQ.load (v := .int .i64 o.id) (fun w_ k_ => ld1 (T := 3) (i := 7) (k_.heap hb4 id)) (k := ?_)
        refine WQ.callG (d := 60) (f := 47) (args := #[.int .i64 o.id]) (v := .string ⟨(encNum (Int.toNat o.id)).toArray⟩) (fun w_ k_ => qIntS_any o.id (by omega) w_) addsR (k := ?_)
        have ln36 := encNum_len (Int.toNat o.id) (by omega)
        refine WQ.bin (d := 61) (v := .string ⟨((encNum (Int.toNat o.kind)) ++ (encNum (Int.toNat o.id))).toArray⟩) (fun _ => cat_run (by (try simp only [List.length_append, List.length_cons, List.length_nil]); omega)) (k := ?_)
        refine WQ.op (d := 62) (.pointer (some ⟨b1, 8, none⟩)) (k := ?_)
        refine WQ.load (v := .int .i64 o.c) (fun w_ k_ => ld1 (T := 2) (i := 8) (k_.heap hb4 id)) (k := ?_)
        refine WQ.opE (d := 64) (.int .u64 (IntKind.u64.wrap o.c)) (v := .int .u64 o.c) (congrArg (Value.int .u64) (IntWalk.u64_in _ (by omega))) (k := ?_)
        refine WQ.callG (d := 65) (f := 50) (args := #[.int .u64 o.c]) (v := .string ⟨(encNum (Int.toNat o.c)).toArray⟩) (fun w_ k_ => qNumS_any (Int.toNat o.c) o.c (by omega) (by omega) w_) addsR (k := ?_)
        have ln37 := encNum_len (Int.toNat o.c) (by omega)
        refine WQ.bin (d := 66) (v := .string ⟨((encNum (Int.toNat o.kind)) ++ (encNum (Int.toNat o.id)) ++ (encNum (Int.toNat o.c))).toArray⟩) (fun _ => cat_run (by (try simp only [List.length_append, List.length_cons, List.length_nil]); omega)) (k := ?_)
        refine WQ.op (d := 2) (.string ⟨((encNum (Int.toNat o.kind)) ++ (encNum (Int.toNat o.id)) ++ (encNum (Int.toNat o.c))).toArray⟩) (k := ?_)
        refine WQ.op (d := 3) (.int .i64 0) (k := ?_)
        refine WQ.nilX (fun w38 k39 => ?_)
        replace hb4 := k39.heap hb4 id
        replace K := K.trans (k39.any _)
        refine WX.seqN ?_
        refine WC.ret ?_
        refine WX.blockR ?_
        refine WX.seqR ?_
        refine WX.ret (rs := [.tmp 2, .tmp 3]) [.string ⟨((encNum (Int.toNat o.kind)) ++ (encNum (Int.toNat o.id)) ++ (encNum (Int.toNat o.c))).toArray⟩, .int .i64 0] (.tuple #[.string ⟨((encNum (Int.toNat o.kind)) ++ (encNum (Int.toNat o.id)) ++ (encNum (Int.toNat o.c))).toArray⟩, .int .i64 0]) ⟨(by kernel_rfl), (by kernel_rfl), trivial⟩ (k := ?_)
        refine ⟨congrArg (fun l : List UInt8 => Ending.returned (.tuple #[.string ⟨l.toArray⟩, .int .i64 0])) ?_, K⟩
        simp [GOp.enc, ph12, ph31, ph35]
      · have ph35 := ne_of_beq_false h35
        refine WC.skip ?_
        refine WX.blockN ?_
        refine WX.seqN ?_
        refine WC.seq ?_
        refine WC.region ?_
        refine WL.op (d := 67) (.string ⟨(encNum (Int.toNat o.kind)).toArray⟩) (k := ?_)
        refine WL.op (d := 68) (.pointer (some ⟨b1, 9, none⟩)) (k := ?_)
        refine WL.load (v := .int .i64 o.m) (ld1 (T := 3) (i := 9) hb4) (k := ?_)
        refine WL.callG (d := 70) (f := 47) (args := #[.int .i64 o.m]) (qIntS_any o.m (by omega) w10) (k := fun e_ w41 h_ => ⟨.string ⟨(encNum (Int.toNat o.m)).toArray⟩, h_.1, ?_⟩)
        have k42 := h_.2; clear h_
        replace hb4 := k42.heap hb4 id
        replace K := K.trans (k42.any _)
        have ln40 := encNum_len (Int.toNat o.m) (by omega)
        refine WL.bin (d := 71) (v := .string ⟨((encNum (Int.toNat o.kind)) ++ (encNum (Int.toNat o.m))).toArray⟩) (cat_run (by (try simp only [List.length_append, List.length_cons, List.length_nil]); omega)) (k := ?_)
        refine WL.op (d := 2) (.string ⟨((encNum (Int.toNat o.kind)) ++ (encNum (Int.toNat o.m))).toArray⟩) (k := ?_)
        refine WL.op (d := 3) (.int .i64 0) (k := ?_)
        refine WL.nil ?_
        refine WX.seqN ?_
        refine WC.ret ?_
        refine WX.ret (rs := [.tmp 2, .tmp 3]) [.string ⟨((encNum (Int.toNat o.kind)) ++ (encNum (Int.toNat o.m))).toArray⟩, .int .i64 0] (.tuple #[.string ⟨((encNum (Int.toNat o.kind)) ++ (encNum (Int.toNat o.m))).toArray⟩, .int .i64 0]) ⟨(by kernel_rfl), (by kernel_rfl), trivial⟩ (k := ?_)
        refine ⟨congrArg (fun l : List UInt8 => Ending.returned (.tuple #[.string ⟨l.toArray⟩, .int .i64 0])) ?_, K⟩
        simp [GOp.enc, ph12, ph31, ph35]
        have e4 : o.kind = 4 := by omega
        simp [e4]

end Go.Proofs.Ytfpdfjbooalgjaa
