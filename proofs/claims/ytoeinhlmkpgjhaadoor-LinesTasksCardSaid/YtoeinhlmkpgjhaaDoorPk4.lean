/- Ln19, Gb: one behind the other. -/
import Derived.Test.YtoeinhlmkpgjhaaDoorPk3
namespace Go.Proofs.YtoeinhlmkpgjhaaDoor
open Go.RowKit
set_option linter.unusedVariables false
set_option linter.unusedSimpArgs false
set_option maxRecDepth 100000 in
set_option maxHeartbeats 4000000 in
theorem linesTasks_any {n0 n1 n2 n3 n4 : Int} {w : World} (hG : GB w) : Calls Tryd.prog 4 #[.agg #[.int .i64 n0, .int .i64 n1, .int .i64 n2, .int .i64 n3, .int .i64 n4]] w fun e w' => e = .returned (.bool true) ∧ Adds w w' := by
  have K : Keeps (fun _ => False) w w := Keeps.refl _ w
  refine Calls.start Tryd.func4 rfl (by kernel_rfl) ?_
  refine WC.seq ?_
  refine WC.region ?_
  refine WL.new (d := 1) (T := 29) #[.int .i64 n0, .int .i64 n1, .int .i64 n2, .int .i64 n3, .int .i64 n4] (k := fun b1 w2 g3 hb4 k5 => ?_)
  have z6 := Nat.le_trans K.size g3
  replace K := K.trans (k5.any _)
  refine WL.op (d := 2) (.bool false) (k := ?_)
  refine WL.nil ?_
  refine WX.seqN ?_
  refine WC.seq ?_
  refine WC.region ?_
  refine WL.callG (d := 18) (f := 6) (args := #[]) (l25awake_c (hG.keeps K (fun _ _ x => x))) (k := fun e_ w7 h_ => ⟨.bool true, h_.1, ?_⟩)
  have k8 := h_.2; clear h_
  replace hb4 := k8.heap hb4 id
  replace K := K.trans (k8.any _)
  refine WL.op (d := 3) (.bool true) (k := ?_)
  refine WL.nil ?_
  refine WX.seqN ?_
  refine WC.seq ?_
  refine WC.region ?_
  refine WL.op (d := 19) (.pointer (some ⟨b1, 3, none⟩)) (k := ?_)
  refine WL.load (v := .int .i64 n3) (ld1 (T := 3) (i := 3) hb4) (k := ?_)
  refine WL.bin (d := 21) (v := .int .i64 (bits BinOp.and IntKind.i64 n3 1048575)) (bits_run (by decide)) (k := ?_)
  have m9 := and_mask (x := n3) (m := 1048575) (by decide) (by decide)
  obtain ⟨r10, e11⟩ : ∃ r : Int, bits BinOp.and IntKind.i64 n3 1048575 = r := ⟨_, rfl⟩
  rw [e11] at m9
  refine WL.rw (t := 21) (v := .int .i64 r10) (congrArg (Value.int .i64) e11) (k := ?_)
  refine WL.opE (d := 22) (.int .i64 (IntKind.i64.wrap (1 + r10))) (v := .int .i64 (1 + r10)) (congrArg (Value.int .i64) (IntWalk.i64_in _ (by omega))) (k := ?_)
  refine WL.op (d := 4) (.int .i64 (1 + r10)) (k := ?_)
  refine WL.nil ?_
  refine WX.seqN ?_
  refine WC.seq ?_
  refine WC.region ?_
  refine WL.op (d := 23) (.pointer (some ⟨b1, 2, none⟩)) (k := ?_)
  refine WL.load (v := .int .i64 n2) (ld1 (T := 3) (i := 2) hb4) (k := ?_)
  refine WL.op (d := 25) (.int .i64 (1 + r10)) (k := ?_)
  refine WL.bin (d := 26) (v := .int .i64 (Int.tmod n2 (1 + r10))) (rem_run (by omega)) (k := ?_)
  have m12 := tmod_rng n2 (1 + r10) (by omega)
  obtain ⟨r13, e14⟩ : ∃ r : Int, Int.tmod n2 (1 + r10) = r := ⟨_, rfl⟩
  rw [e14] at m12
  refine WL.rw (t := 26) (v := .int .i64 r13) (congrArg (Value.int .i64) e14) (k := ?_)
  refine WL.op (d := 27) (.int .i64 (1 + r10)) (k := ?_)
  refine WL.opE (d := 28) (.int .i64 (IntKind.i64.wrap (r13 + (1 + r10)))) (v := .int .i64 (r13 + (1 + r10))) (congrArg (Value.int .i64) (IntWalk.i64_in _ (by omega))) (k := ?_)
  refine WL.op (d := 29) (.int .i64 (1 + r10)) (k := ?_)
  refine WL.bin (d := 30) (v := .int .i64 (Int.tmod (r13 + (1 + r10)) (1 + r10))) (rem_run (by omega)) (k := ?_)
  have m15 := tmod_rng (r13 + (1 + r10)) (1 + r10) (by omega)
  obtain ⟨r16, e17⟩ : ∃ r : Int, Int.tmod (r13 + (1 + r10)) (1 + r10) = r := ⟨_, rfl⟩
  rw [e17] at m15
  refine WL.rw (t := 30) (v := .int .i64 r16) (congrArg (Value.int .i64) e17) (k := ?_)
  refine WL.opE (d := 31) (.int .i64 (IntKind.i64.wrap (1 + r16))) (v := .int .i64 (1 + r16)) (congrArg (Value.int .i64) (IntWalk.i64_in _ (by omega))) (k := ?_)
  refine WL.op (d := 5) (.int .i64 (1 + r16)) (k := ?_)
  refine WL.nil ?_
  refine WX.seqN ?_
  refine WC.seq ?_
  refine WC.mixed (fun _ => False) 22 (k := fun w18 k19 => ?_)
  replace hb4 := k19.heap hb4 id
  replace K := K.trans (k19.any _)
  have KC := Keeps.refl (fun _ => False) w18
  have bh20 := hb4
  have Kb := K
  refine WA.quiet 0 (d := 32) (.pointer (some ⟨b1, 0, none⟩)) KC (hi := rfl) (k := ?_)
  refine WA.quietR 1 (d := 33) (.int .i64 n0) KC (exec_load (fun w_ k_ => ld1 (T := 3) (i := 0) (k_.heap bh20 id))) (hi := rfl) (k := ?_)
  refine WA.quietR 2 (d := 34) (.int .i64 (bits BinOp.and IntKind.i64 n0 1023)) KC (exec_bin (fun _ => bits_run (by decide))) (hi := rfl) (k := ?_)
  have m21 := and_mask (x := n0) (m := 1023) (by decide) (by decide)
  obtain ⟨r22, e23⟩ : ∃ r : Int, bits BinOp.and IntKind.i64 n0 1023 = r := ⟨_, rfl⟩
  rw [e23] at m21
  refine WA.rw (t := 34) (v := .int .i64 r22) (congrArg (Value.int .i64) e23) (k := ?_)
  refine WA.quiet 3 (d := 35) (.pointer (some ⟨b1, 1, none⟩)) KC (hi := rfl) (k := ?_)
  refine WA.quietR 4 (d := 36) (.int .i64 n1) KC (exec_load (fun w_ k_ => ld1 (T := 3) (i := 1) (k_.heap bh20 id))) (hi := rfl) (k := ?_)
  refine WA.quiet 5 (d := 37) (.int .i64 (1 + r16)) KC (hi := rfl) (k := ?_)
  refine WA.quietR 6 (d := 38) (.int .i64 (Int.tmod n1 (1 + r16))) KC (exec_bin (fun _ => rem_run (by omega))) (hi := rfl) (k := ?_)
  have m24 := tmod_rng n1 (1 + r16) (by omega)
  obtain ⟨r25, e26⟩ : ∃ r : Int, Int.tmod n1 (1 + r16) = r := ⟨_, rfl⟩
  rw [e26] at m24
  refine WA.rw (t := 38) (v := .int .i64 r25) (congrArg (Value.int .i64) e26) (k := ?_)
  refine WA.quiet 7 (d := 39) (.int .i64 (1 + r16)) KC (hi := rfl) (k := ?_)
  refine WA.quiet 8 (d := 40) (.int .i64 (IntKind.i64.wrap (r25 + (1 + r16)))) KC (hi := rfl) (k := ?_)
  refine WA.rw (t := 40) (v := .int .i64 (r25 + (1 + r16))) (congrArg (Value.int .i64) (IntWalk.i64_in _ (by omega))) (k := ?_)
  refine WA.quiet 9 (d := 41) (.int .i64 (1 + r16)) KC (hi := rfl) (k := ?_)
  refine WA.quietR 10 (d := 42) (.int .i64 (Int.tmod (r25 + (1 + r16)) (1 + r16))) KC (exec_bin (fun _ => rem_run (by omega))) (hi := rfl) (k := ?_)
  have m27 := tmod_rng (r25 + (1 + r16)) (1 + r16) (by omega)
  obtain ⟨r28, e29⟩ : ∃ r : Int, Int.tmod (r25 + (1 + r16)) (1 + r16) = r := ⟨_, rfl⟩
  rw [e29] at m27
  refine WA.rw (t := 42) (v := .int .i64 r28) (congrArg (Value.int .i64) e29) (k := ?_)
  refine WA.quiet 11 (d := 43) (.int .i64 (IntKind.i64.wrap (1 + r28))) KC (hi := rfl) (k := ?_)
  refine WA.rw (t := 43) (v := .int .i64 (1 + r28)) (congrArg (Value.int .i64) (IntWalk.i64_in _ (by omega))) (k := ?_)
  refine WA.quiet 12 (d := 44) (.int .i64 (1 + r16)) KC (hi := rfl) (k := ?_)
  refine WA.quiet 13 (d := 45) (.int .i64 (1 + r10)) KC (hi := rfl) (k := ?_)
  refine WA.quiet 14 (d := 46) (.pointer (some ⟨b1, 4, none⟩)) KC (hi := rfl) (k := ?_)
  refine WA.quietR 15 (d := 47) (.int .i64 n4) KC (exec_load (fun w_ k_ => ld1 (T := 3) (i := 4) (k_.heap bh20 id))) (hi := rfl) (k := ?_)
  refine WA.quietR 16 (d := 48) (.int .i64 (Int.tmod n4 15)) KC (exec_bin (fun _ => rem_run (by omega))) (hi := rfl) (k := ?_)
  have m30 := tmod_rng n4 15 (by omega)
  obtain ⟨r31, e32⟩ : ∃ r : Int, Int.tmod n4 15 = r := ⟨_, rfl⟩
  rw [e32] at m30
  refine WA.rw (t := 48) (v := .int .i64 r31) (congrArg (Value.int .i64) e32) (k := ?_)
  refine WA.quiet 17 (d := 49) (.int .i64 (IntKind.i64.wrap (r31 + 15))) KC (hi := rfl) (k := ?_)
  refine WA.rw (t := 49) (v := .int .i64 (r31 + 15)) (congrArg (Value.int .i64) (IntWalk.i64_in _ (by omega))) (k := ?_)
  refine WA.quietR 18 (d := 50) (.int .i64 (Int.tmod (r31 + 15) 15)) KC (exec_bin (fun _ => rem_run (by omega))) (hi := rfl) (k := ?_)
  have m33 := tmod_rng (r31 + 15) 15 (by omega)
  obtain ⟨r34, e35⟩ : ∃ r : Int, Int.tmod (r31 + 15) 15 = r := ⟨_, rfl⟩
  rw [e35] at m33
  refine WA.rw (t := 50) (v := .int .i64 r34) (congrArg (Value.int .i64) e35) (k := ?_)
  refine WA.quiet 19 (d := 51) (.int .i64 (IntKind.i64.wrap (1 + r34))) KC (hi := rfl) (k := ?_)
  refine WA.rw (t := 51) (v := .int .i64 (1 + r34)) (congrArg (Value.int .i64) (IntWalk.i64_in _ (by omega))) (k := ?_)
  refine WA.quiet 20 (d := 52) (.agg #[.int .i64 r22, .int .i64 (1 + r28), .int .i64 (1 + r16), .int .i64 (1 + r10), .int .i64 (1 + r34)]) KC (hi := rfl) (k := ?_)
  refine WA.step 21 (hi := rfl) (k := ?_)
  refine WL.new (d := 6) (T := 31) #[.int .i64 0, .int .i64 0, .int .i64 0, .int .i64 0, .int .i64 0] (k := fun b36 w37 g38 hb39 k40 => ?_)
  have z41 := Nat.le_trans K.size g38
  have zc42 := Nat.le_trans KC.size g38
  have n43 : b1 ≠ b36 := Nat.ne_of_lt (Nat.lt_of_lt_of_le (lt_of_heap hb4) g38)
  replace hb4 := k40.heap hb4 id
  replace K := K.trans (k40.any _)
  replace KC := KC.trans (k40.any _)
  refine WL.nil ?_
  refine WX.nxt KC ?_
  refine WA.step 22 (hi := rfl) (k := ?_)
  refine WL.store (v := .agg #[.int .i64 r22, .int .i64 (1 + r28), .int .i64 (1 + r16), .int .i64 (1 + r10), .int .i64 (1 + r34)]) (i := 0) (cs' := #[.int .i64 r22, .int .i64 (1 + r28), .int .i64 (1 + r16), .int .i64 (1 + r10), .int .i64 (1 + r34)]) hb39 (k := fun w44 hb45 k46 => ?_)
  replace hb4 := k46.heap hb4 n43
  replace K := K.trans' k46 (fun i hi e => absurd (e ▸ hi) (Nat.not_lt.2 z41))
  clear hb39
  refine WL.nil ?_
  refine WX.nxtL ?_
  refine WA.done (k := ?_)
  clear KC
  refine WX.seqN ?_
  refine WC.seq ?_
  have hok_ : GTask.ok (⟨r22, (1 + r28), (1 + r16), (1 + r10), (1 + r34)⟩ : GTask) := by unfold GTask.ok; simp only; omega
  have tw_ := taskW_le (⟨r22, (1 + r28), (1 + r16), (1 + r10), (1 + r34)⟩ : GTask)
  refine WC.region ?_
  refine WL.load (v := .agg #[.int .i64 r22, .int .i64 (1 + r28), .int .i64 (1 + r16), .int .i64 (1 + r10), .int .i64 (1 + r34)]) (ldN (T := 31) (i := 0) (m := 5) (l := [.int .i64 r22, .int .i64 (1 + r28), .int .i64 (1 + r16), .int .i64 (1 + r10), .int .i64 (1 + r34)]) hb45) (k := ?_)
  refine WL.callG (d := 54) (f := 8) (args := #[.agg #[.int .i64 r22, .int .i64 (1 + r28), .int .i64 (1 + r16), .int .i64 (1 + r10), .int .i64 (1 + r34)]]) (lnTask_c (⟨r22, (1 + r28), (1 + r16), (1 + r10), (1 + r34)⟩ : GTask) (hG.keeps K (fun _ _ x => x))) (k := fun e_ w47 h_ => ⟨.string ⟨(taskW (⟨r22, (1 + r28), (1 + r16), (1 + r10), (1 + r34)⟩ : GTask)).toArray⟩, h_.1, ?_⟩)
  have k48 := h_.2; clear h_
  replace hb4 := k48.heap hb4 id
  replace hb45 := k48.heap hb45 id
  replace K := K.trans (k48.any _)
  refine WL.op (d := 7) (.string ⟨(taskW (⟨r22, (1 + r28), (1 + r16), (1 + r10), (1 + r34)⟩ : GTask)).toArray⟩) (k := ?_)
  refine WL.nil ?_
  refine WX.seqN ?_
  refine WC.seq ?_
  refine WC.region ?_
  refine WL.op (d := 56) (.string ⟨(taskW (⟨r22, (1 + r28), (1 + r16), (1 + r10), (1 + r34)⟩ : GTask)).toArray⟩) (k := ?_)
  refine WL.callG (d := 57) (f := 9) (args := #[.string ⟨(taskW (⟨r22, (1 + r28), (1 + r16), (1 + r10), (1 + r34)⟩ : GTask)).toArray⟩]) (lnParseTask_c (l := (taskW (⟨r22, (1 + r28), (1 + r16), (1 + r10), (1 + r34)⟩ : GTask))) (by show List.length (taskW (⟨r22, (1 + r28), (1 + r16), (1 + r10), (1 + r34)⟩ : GTask)) ≤ _; first | omega | (simp; done) | (simp; omega)) (hG.keeps K (fun _ _ x => x))) (k := fun e_ w49 h_ => ⟨.tuple #[GTask.val (taskV (taskW (⟨r22, (1 + r28), (1 + r16), (1 + r10), (1 + r34)⟩ : GTask))), .bool (decide (taskP (taskW (⟨r22, (1 + r28), (1 + r16), (1 + r10), (1 + r34)⟩ : GTask))))], h_.1, ?_⟩)
  have k50 := h_.2; clear h_
  replace hb4 := k50.heap hb4 id
  replace hb45 := k50.heap hb45 id
  replace K := K.trans (k50.any _)
  refine WL.op (d := 55) (.tuple #[GTask.val (taskV (taskW (⟨r22, (1 + r28), (1 + r16), (1 + r10), (1 + r34)⟩ : GTask))), .bool (decide (taskP (taskW (⟨r22, (1 + r28), (1 + r16), (1 + r10), (1 + r34)⟩ : GTask))))]) (k := ?_)
  refine WL.op (d := 58) (GTask.val (taskV (taskW (⟨r22, (1 + r28), (1 + r16), (1 + r10), (1 + r34)⟩ : GTask)))) (k := ?_)
  refine WL.op (d := 59) (.bool (decide (taskP (taskW (⟨r22, (1 + r28), (1 + r16), (1 + r10), (1 + r34)⟩ : GTask))))) (k := ?_)
  refine WL.new (d := 8) (T := 31) #[.int .i64 0, .int .i64 0, .int .i64 0, .int .i64 0, .int .i64 0] (k := fun b51 w52 g53 hb54 k55 => ?_)
  have z56 := Nat.le_trans K.size g53
  have n57 : b1 ≠ b51 := Nat.ne_of_lt (Nat.lt_of_lt_of_le (lt_of_heap hb4) g53)
  have n58 : b36 ≠ b51 := Nat.ne_of_lt (Nat.lt_of_lt_of_le (lt_of_heap hb45) g53)
  replace hb4 := k55.heap hb4 id
  replace hb45 := k55.heap hb45 id
  replace K := K.trans (k55.any _)
  refine WL.store (v := GTask.val (taskV (taskW (⟨r22, (1 + r28), (1 + r16), (1 + r10), (1 + r34)⟩ : GTask)))) (i := 0) (cs' := (Value.cells (GTask.val (taskV (taskW (⟨r22, (1 + r28), (1 + r16), (1 + r10), (1 + r34)⟩ : GTask)))))) hb54 (k := fun w59 hb60 k61 => ?_)
  replace hb4 := k61.heap hb4 n57
  replace hb45 := k61.heap hb45 n58
  replace K := K.trans' k61 (fun i hi e => absurd (e ▸ hi) (Nat.not_lt.2 z56))
  clear hb54
  refine WL.op (d := 9) (.bool (decide (taskP (taskW (⟨r22, (1 + r28), (1 + r16), (1 + r10), (1 + r34)⟩ : GTask))))) (k := ?_)
  refine WL.nil ?_
  refine WX.seqN ?_
  refine WC.seq ?_
  refine WC.region ?_
  refine WL.op (d := 61) (.string ⟨(taskW (⟨r22, (1 + r28), (1 + r16), (1 + r10), (1 + r34)⟩ : GTask)).toArray⟩) (k := ?_)
  refine WL.bin (d := 62) (v := .string ⟨([48] ++ (taskW (⟨r22, (1 + r28), (1 + r16), (1 + r10), (1 + r34)⟩ : GTask))).toArray⟩) (cat_run (by (try simp only [List.length_append, List.length_cons, List.length_nil]); omega)) (k := ?_)
  obtain ⟨Y62, hY62, lY62⟩ : ∃ Y, [48] ++ (taskW (⟨r22, (1 + r28), (1 + r16), (1 + r10), (1 + r34)⟩ : GTask)) = Y ∧ Y.length ≤ 200 := ⟨_, rfl, by simp only [List.length_append, List.length_cons, List.length_nil]; omega⟩
  refine WL.rw (t := 62) (v := .string ⟨(Y62).toArray⟩) (congrArg (fun l : List UInt8 => Value.string ⟨l.toArray⟩) hY62) (k := ?_)
  refine WL.callG (d := 63) (f := 9) (args := #[.string ⟨(Y62).toArray⟩]) (lnParseTask_c (l := Y62) (by show List.length Y62 ≤ _; first | omega | (simp; done) | (simp; omega)) (hG.keeps K (fun _ _ x => x))) (k := fun e_ w62 h_ => ⟨.tuple #[GTask.val (taskV Y62), .bool (decide (taskP Y62))], h_.1, ?_⟩)
  have k63 := h_.2; clear h_
  replace hb4 := k63.heap hb4 id
  replace hb45 := k63.heap hb45 id
  replace hb60 := k63.heap hb60 id
  replace K := K.trans (k63.any _)
  refine WL.op (d := 60) (.tuple #[GTask.val (taskV Y62), .bool (decide (taskP Y62))]) (k := ?_)
  refine WL.op (d := 64) (GTask.val (taskV Y62)) (k := ?_)
  refine WL.op (d := 65) (.bool (decide (taskP Y62))) (k := ?_)
  refine WL.new (d := 10) (T := 31) #[.int .i64 0, .int .i64 0, .int .i64 0, .int .i64 0, .int .i64 0] (k := fun b64 w65 g66 hb67 k68 => ?_)
  have z69 := Nat.le_trans K.size g66
  have n70 : b1 ≠ b64 := Nat.ne_of_lt (Nat.lt_of_lt_of_le (lt_of_heap hb4) g66)
  have n71 : b36 ≠ b64 := Nat.ne_of_lt (Nat.lt_of_lt_of_le (lt_of_heap hb45) g66)
  have n72 : b51 ≠ b64 := Nat.ne_of_lt (Nat.lt_of_lt_of_le (lt_of_heap hb60) g66)
  replace hb4 := k68.heap hb4 id
  replace hb45 := k68.heap hb45 id
  replace hb60 := k68.heap hb60 id
  replace K := K.trans (k68.any _)
  refine WL.store (v := GTask.val (taskV Y62)) (i := 0) (cs' := (Value.cells (GTask.val (taskV Y62)))) hb67 (k := fun w73 hb74 k75 => ?_)
  replace hb4 := k75.heap hb4 n70
  replace hb45 := k75.heap hb45 n71
  replace hb60 := k75.heap hb60 n72
  replace K := K.trans' k75 (fun i hi e => absurd (e ▸ hi) (Nat.not_lt.2 z69))
  clear hb67
  refine WL.op (d := 11) (.bool (decide (taskP Y62))) (k := ?_)
  refine WL.nil ?_
  refine WX.seqN ?_
  refine WC.seq ?_
  refine WC.region ?_
  refine WL.op (d := 67) (.string ⟨(taskW (⟨r22, (1 + r28), (1 + r16), (1 + r10), (1 + r34)⟩ : GTask)).toArray⟩) (k := ?_)
  refine WL.bin (d := 68) (v := .string ⟨((taskW (⟨r22, (1 + r28), (1 + r16), (1 + r10), (1 + r34)⟩ : GTask)) ++ [47]).toArray⟩) (cat_run (by (try simp only [List.length_append, List.length_cons, List.length_nil]); omega)) (k := ?_)
  obtain ⟨Y68, hY68, lY68⟩ : ∃ Y, (taskW (⟨r22, (1 + r28), (1 + r16), (1 + r10), (1 + r34)⟩ : GTask)) ++ [47] = Y ∧ Y.length ≤ 200 := ⟨_, rfl, by simp only [List.length_append, List.length_cons, List.length_nil]; omega⟩
  refine WL.rw (t := 68) (v := .string ⟨(Y68).toArray⟩) (congrArg (fun l : List UInt8 => Value.string ⟨l.toArray⟩) hY68) (k := ?_)
  refine WL.callG (d := 69) (f := 9) (args := #[.string ⟨(Y68).toArray⟩]) (lnParseTask_c (l := Y68) (by show List.length Y68 ≤ _; first | omega | (simp; done) | (simp; omega)) (hG.keeps K (fun _ _ x => x))) (k := fun e_ w76 h_ => ⟨.tuple #[GTask.val (taskV Y68), .bool (decide (taskP Y68))], h_.1, ?_⟩)
  have k77 := h_.2; clear h_
  replace hb4 := k77.heap hb4 id
  replace hb45 := k77.heap hb45 id
  replace hb60 := k77.heap hb60 id
  replace hb74 := k77.heap hb74 id
  replace K := K.trans (k77.any _)
  refine WL.op (d := 66) (.tuple #[GTask.val (taskV Y68), .bool (decide (taskP Y68))]) (k := ?_)
  refine WL.op (d := 70) (GTask.val (taskV Y68)) (k := ?_)
  refine WL.op (d := 71) (.bool (decide (taskP Y68))) (k := ?_)
  refine WL.new (d := 12) (T := 31) #[.int .i64 0, .int .i64 0, .int .i64 0, .int .i64 0, .int .i64 0] (k := fun b78 w79 g80 hb81 k82 => ?_)
  have z83 := Nat.le_trans K.size g80
  have n84 : b1 ≠ b78 := Nat.ne_of_lt (Nat.lt_of_lt_of_le (lt_of_heap hb4) g80)
  have n85 : b36 ≠ b78 := Nat.ne_of_lt (Nat.lt_of_lt_of_le (lt_of_heap hb45) g80)
  have n86 : b51 ≠ b78 := Nat.ne_of_lt (Nat.lt_of_lt_of_le (lt_of_heap hb60) g80)
  have n87 : b64 ≠ b78 := Nat.ne_of_lt (Nat.lt_of_lt_of_le (lt_of_heap hb74) g80)
  replace hb4 := k82.heap hb4 id
  replace hb45 := k82.heap hb45 id
  replace hb60 := k82.heap hb60 id
  replace hb74 := k82.heap hb74 id
  replace K := K.trans (k82.any _)
  refine WL.store (v := GTask.val (taskV Y68)) (i := 0) (cs' := (Value.cells (GTask.val (taskV Y68)))) hb81 (k := fun w88 hb89 k90 => ?_)
  replace hb4 := k90.heap hb4 n84
  replace hb45 := k90.heap hb45 n85
  replace hb60 := k90.heap hb60 n86
  replace hb74 := k90.heap hb74 n87
  replace K := K.trans' k90 (fun i hi e => absurd (e ▸ hi) (Nat.not_lt.2 z83))
  clear hb81
  refine WL.op (d := 13) (.bool (decide (taskP Y68))) (k := ?_)
  refine WL.nil ?_
  refine WX.seqN ?_
  refine WC.seq ?_
  refine WC.region ?_
  refine WL.op (d := 73) (.string ⟨(taskW (⟨r22, (1 + r28), (1 + r16), (1 + r10), (1 + r34)⟩ : GTask)).toArray⟩) (k := ?_)
  refine WL.bin (d := 74) (v := .string ⟨((taskW (⟨r22, (1 + r28), (1 + r16), (1 + r10), (1 + r34)⟩ : GTask)) ++ [47, 49]).toArray⟩) (cat_run (by (try simp only [List.length_append, List.length_cons, List.length_nil]); omega)) (k := ?_)
  obtain ⟨Y74, hY74, lY74⟩ : ∃ Y, (taskW (⟨r22, (1 + r28), (1 + r16), (1 + r10), (1 + r34)⟩ : GTask)) ++ [47, 49] = Y ∧ Y.length ≤ 200 := ⟨_, rfl, by simp only [List.length_append, List.length_cons, List.length_nil]; omega⟩
  refine WL.rw (t := 74) (v := .string ⟨(Y74).toArray⟩) (congrArg (fun l : List UInt8 => Value.string ⟨l.toArray⟩) hY74) (k := ?_)
  refine WL.callG (d := 75) (f := 9) (args := #[.string ⟨(Y74).toArray⟩]) (lnParseTask_c (l := Y74) (by show List.length Y74 ≤ _; first | omega | (simp; done) | (simp; omega)) (hG.keeps K (fun _ _ x => x))) (k := fun e_ w91 h_ => ⟨.tuple #[GTask.val (taskV Y74), .bool (decide (taskP Y74))], h_.1, ?_⟩)
  have k92 := h_.2; clear h_
  replace hb4 := k92.heap hb4 id
  replace hb45 := k92.heap hb45 id
  replace hb60 := k92.heap hb60 id
  replace hb74 := k92.heap hb74 id
  replace hb89 := k92.heap hb89 id
  replace K := K.trans (k92.any _)
  refine WL.op (d := 72) (.tuple #[GTask.val (taskV Y74), .bool (decide (taskP Y74))]) (k := ?_)
  refine WL.op (d := 76) (GTask.val (taskV Y74)) (k := ?_)
  refine WL.op (d := 77) (.bool (decide (taskP Y74))) (k := ?_)
  refine WL.new (d := 14) (T := 31) #[.int .i64 0, .int .i64 0, .int .i64 0, .int .i64 0, .int .i64 0] (k := fun b93 w94 g95 hb96 k97 => ?_)
  have z98 := Nat.le_trans K.size g95
  have n99 : b1 ≠ b93 := Nat.ne_of_lt (Nat.lt_of_lt_of_le (lt_of_heap hb4) g95)
  have n100 : b36 ≠ b93 := Nat.ne_of_lt (Nat.lt_of_lt_of_le (lt_of_heap hb45) g95)
  have n101 : b51 ≠ b93 := Nat.ne_of_lt (Nat.lt_of_lt_of_le (lt_of_heap hb60) g95)
  have n102 : b64 ≠ b93 := Nat.ne_of_lt (Nat.lt_of_lt_of_le (lt_of_heap hb74) g95)
  have n103 : b78 ≠ b93 := Nat.ne_of_lt (Nat.lt_of_lt_of_le (lt_of_heap hb89) g95)
  replace hb4 := k97.heap hb4 id
  replace hb45 := k97.heap hb45 id
  replace hb60 := k97.heap hb60 id
  replace hb74 := k97.heap hb74 id
  replace hb89 := k97.heap hb89 id
  replace K := K.trans (k97.any _)
  refine WL.store (v := GTask.val (taskV Y74)) (i := 0) (cs' := (Value.cells (GTask.val (taskV Y74)))) hb96 (k := fun w104 hb105 k106 => ?_)
  replace hb4 := k106.heap hb4 n99
  replace hb45 := k106.heap hb45 n100
  replace hb60 := k106.heap hb60 n101
  replace hb74 := k106.heap hb74 n102
  replace hb89 := k106.heap hb89 n103
  replace K := K.trans' k106 (fun i hi e => absurd (e ▸ hi) (Nat.not_lt.2 z98))
  clear hb96
  refine WL.op (d := 15) (.bool (decide (taskP Y74))) (k := ?_)
  refine WL.nil ?_
  refine WX.seqN ?_
  refine WC.seq ?_
  refine WC.region ?_
  refine WL.op (d := 79) (.string ⟨(taskW (⟨r22, (1 + r28), (1 + r16), (1 + r10), (1 + r34)⟩ : GTask)).toArray⟩) (k := ?_)
  refine WL.bin (d := 80) (v := .string ⟨([58] ++ (taskW (⟨r22, (1 + r28), (1 + r16), (1 + r10), (1 + r34)⟩ : GTask))).toArray⟩) (cat_run (by (try simp only [List.length_append, List.length_cons, List.length_nil]); omega)) (k := ?_)
  obtain ⟨Y80, hY80, lY80⟩ : ∃ Y, [58] ++ (taskW (⟨r22, (1 + r28), (1 + r16), (1 + r10), (1 + r34)⟩ : GTask)) = Y ∧ Y.length ≤ 200 := ⟨_, rfl, by simp only [List.length_append, List.length_cons, List.length_nil]; omega⟩
  refine WL.rw (t := 80) (v := .string ⟨(Y80).toArray⟩) (congrArg (fun l : List UInt8 => Value.string ⟨l.toArray⟩) hY80) (k := ?_)
  refine WL.callG (d := 81) (f := 9) (args := #[.string ⟨(Y80).toArray⟩]) (lnParseTask_c (l := Y80) (by show List.length Y80 ≤ _; first | omega | (simp; done) | (simp; omega)) (hG.keeps K (fun _ _ x => x))) (k := fun e_ w107 h_ => ⟨.tuple #[GTask.val (taskV Y80), .bool (decide (taskP Y80))], h_.1, ?_⟩)
  have k108 := h_.2; clear h_
  replace hb4 := k108.heap hb4 id
  replace hb45 := k108.heap hb45 id
  replace hb60 := k108.heap hb60 id
  replace hb74 := k108.heap hb74 id
  replace hb89 := k108.heap hb89 id
  replace hb105 := k108.heap hb105 id
  replace K := K.trans (k108.any _)
  refine WL.op (d := 78) (.tuple #[GTask.val (taskV Y80), .bool (decide (taskP Y80))]) (k := ?_)
  refine WL.op (d := 82) (GTask.val (taskV Y80)) (k := ?_)
  refine WL.op (d := 83) (.bool (decide (taskP Y80))) (k := ?_)
  refine WL.new (d := 16) (T := 31) #[.int .i64 0, .int .i64 0, .int .i64 0, .int .i64 0, .int .i64 0] (k := fun b109 w110 g111 hb112 k113 => ?_)
  have z114 := Nat.le_trans K.size g111
  have n115 : b1 ≠ b109 := Nat.ne_of_lt (Nat.lt_of_lt_of_le (lt_of_heap hb4) g111)
  have n116 : b36 ≠ b109 := Nat.ne_of_lt (Nat.lt_of_lt_of_le (lt_of_heap hb45) g111)
  have n117 : b51 ≠ b109 := Nat.ne_of_lt (Nat.lt_of_lt_of_le (lt_of_heap hb60) g111)
  have n118 : b64 ≠ b109 := Nat.ne_of_lt (Nat.lt_of_lt_of_le (lt_of_heap hb74) g111)
  have n119 : b78 ≠ b109 := Nat.ne_of_lt (Nat.lt_of_lt_of_le (lt_of_heap hb89) g111)
  have n120 : b93 ≠ b109 := Nat.ne_of_lt (Nat.lt_of_lt_of_le (lt_of_heap hb105) g111)
  replace hb4 := k113.heap hb4 id
  replace hb45 := k113.heap hb45 id
  replace hb60 := k113.heap hb60 id
  replace hb74 := k113.heap hb74 id
  replace hb89 := k113.heap hb89 id
  replace hb105 := k113.heap hb105 id
  replace K := K.trans (k113.any _)
  refine WL.store (v := GTask.val (taskV Y80)) (i := 0) (cs' := (Value.cells (GTask.val (taskV Y80)))) hb112 (k := fun w121 hb122 k123 => ?_)
  replace hb4 := k123.heap hb4 n115
  replace hb45 := k123.heap hb45 n116
  replace hb60 := k123.heap hb60 n117
  replace hb74 := k123.heap hb74 n118
  replace hb89 := k123.heap hb89 n119
  replace hb105 := k123.heap hb105 n120
  replace K := K.trans' k123 (fun i hi e => absurd (e ▸ hi) (Nat.not_lt.2 z114))
  clear hb112
  refine WL.op (d := 17) (.bool (decide (taskP Y80))) (k := ?_)
  refine WL.nil ?_
  refine WX.seqN ?_
  refine WC.seq ?_
  refine WC.region ?_
  refine WL.op (d := 84) (.bool true) (k := ?_)
  refine WL.op (d := 85) (.bool true) (k := ?_)
  refine WL.op (d := 86) (.bool (decide (taskP (taskW (⟨r22, (1 + r28), (1 + r16), (1 + r10), (1 + r34)⟩ : GTask))))) (k := ?_)
  refine WL.op (d := 87) (.bool (decide (taskP (taskW (⟨r22, (1 + r28), (1 + r16), (1 + r10), (1 + r34)⟩ : GTask))))) (k := ?_)
  refine WL.op (d := 88) (.bool (decide (taskP (taskW (⟨r22, (1 + r28), (1 + r16), (1 + r10), (1 + r34)⟩ : GTask))))) (k := ?_)
  refine bsplit (decide (taskP (taskW (⟨r22, (1 + r28), (1 + r16), (1 + r10), (1 + r34)⟩ : GTask)))) (fun h124 => ?_) (fun h124 => ?_)
  · have ph124 := of_decide_eq_true h124
    refine WL.rw (t := 88) (v := .bool true) (congrArg Value.bool h124) (k := ?_)
    refine WL.load (v := GTask.val (taskV (taskW (⟨r22, (1 + r28), (1 + r16), (1 + r10), (1 + r34)⟩ : GTask)))) (ldN (T := 31) (i := 0) (m := 5) (l := (Value.cells (GTask.val (taskV (taskW (⟨r22, (1 + r28), (1 + r16), (1 + r10), (1 + r34)⟩ : GTask))))).toList) hb60) (k := ?_)
    refine WL.load (v := .agg #[.int .i64 r22, .int .i64 (1 + r28), .int .i64 (1 + r16), .int .i64 (1 + r10), .int .i64 (1 + r34)]) (ldN (T := 31) (i := 0) (m := 5) (l := [.int .i64 r22, .int .i64 (1 + r28), .int .i64 (1 + r16), .int .i64 (1 + r10), .int .i64 (1 + r34)]) hb45) (k := ?_)
    refine WL.bin (d := 91) (v := .bool (decide ((taskV (taskW (⟨r22, (1 + r28), (1 + r16), (1 + r10), (1 + r34)⟩ : GTask))) = (⟨r22, (1 + r28), (1 + r16), (1 + r10), (1 + r34)⟩ : GTask)))) (eqTaskV (taskV (taskW (⟨r22, (1 + r28), (1 + r16), (1 + r10), (1 + r34)⟩ : GTask))) (⟨r22, (1 + r28), (1 + r16), (1 + r10), (1 + r34)⟩ : GTask) _) (k := ?_)
    refine WL.op (d := 92) (.bool (decide ((taskV (taskW (⟨r22, (1 + r28), (1 + r16), (1 + r10), (1 + r34)⟩ : GTask))) = (⟨r22, (1 + r28), (1 + r16), (1 + r10), (1 + r34)⟩ : GTask)))) (k := ?_)
    refine WL.op (d := 93) (.bool (decide ((taskV (taskW (⟨r22, (1 + r28), (1 + r16), (1 + r10), (1 + r34)⟩ : GTask))) = (⟨r22, (1 + r28), (1 + r16), (1 + r10), (1 + r34)⟩ : GTask)))) (k := ?_)
    refine bsplit (decide ((taskV (taskW (⟨r22, (1 + r28), (1 + r16), (1 + r10), (1 + r34)⟩ : GTask))) = (⟨r22, (1 + r28), (1 + r16), (1 + r10), (1 + r34)⟩ : GTask))) (fun h125 => ?_) (fun h125 => ?_)
    · have ph125 := of_decide_eq_true h125
      refine WL.rw (t := 93) (v := .bool true) (congrArg Value.bool h125) (k := ?_)
      refine WL.op (d := 94) (.bool (decide (taskP Y62))) (k := ?_)
      refine WL.op (d := 95) (.bool (!(decide (taskP Y62)))) (k := ?_)
      refine WL.op (d := 96) (.bool (!(decide (taskP Y62)))) (k := ?_)
      refine WL.op (d := 97) (.bool (!(decide (taskP Y62)))) (k := ?_)
      refine bsplit (!(decide (taskP Y62))) (fun h126 => ?_) (fun h126 => ?_)
      · have h127 : (decide (taskP Y62)) = false := Bool.not_inj (y := false) h126
        have ph127 := of_decide_eq_false h127
        refine WL.rw (t := 97) (v := .bool true) (congrArg Value.bool h126) (k := ?_)
        refine WL.op (d := 98) (.bool (decide (taskP Y68))) (k := ?_)
        refine WL.op (d := 99) (.bool (!(decide (taskP Y68)))) (k := ?_)
        refine WL.op (d := 100) (.bool (!(decide (taskP Y68)))) (k := ?_)
        refine WL.op (d := 101) (.bool (!(decide (taskP Y68)))) (k := ?_)
        refine bsplit (!(decide (taskP Y68))) (fun h128 => ?_) (fun h128 => ?_)
        · have h129 : (decide (taskP Y68)) = false := Bool.not_inj (y := false) h128
          have ph129 := of_decide_eq_false h129
          refine WL.rw (t := 101) (v := .bool true) (congrArg Value.bool h128) (k := ?_)
          refine WL.op (d := 102) (.bool (decide (taskP Y74))) (k := ?_)
          refine WL.op (d := 103) (.bool (!(decide (taskP Y74)))) (k := ?_)
          refine WL.op (d := 104) (.bool (!(decide (taskP Y74)))) (k := ?_)
          refine WL.op (d := 105) (.bool (!(decide (taskP Y74)))) (k := ?_)
          refine bsplit (!(decide (taskP Y74))) (fun h130 => ?_) (fun h130 => ?_)
          · have h131 : (decide (taskP Y74)) = false := Bool.not_inj (y := false) h130
            have ph131 := of_decide_eq_false h131
            refine WL.rw (t := 105) (v := .bool true) (congrArg Value.bool h130) (k := ?_)
            refine WL.op (d := 106) (.bool (decide (taskP Y80))) (k := ?_)
            refine WL.op (d := 107) (.bool (!(decide (taskP Y80)))) (k := ?_)
            refine WL.op (d := 108) (.bool (!(decide (taskP Y80)))) (k := ?_)
            refine WL.op (d := 2) (.bool (!(decide (taskP Y80)))) (k := ?_)
            refine WL.nil ?_
            refine WX.seqN ?_
            refine WC.ret ?_
            refine WX.ret (rs := [.tmp 2]) [.bool (!(decide (taskP Y80)))] (.bool (!(decide (taskP Y80)))) ⟨(by kernel_rfl), trivial⟩ (k := ?_)
            exact ⟨ret_bool (by rw [decide_eq_false (hY80 ▸ task_n4 _)]; rfl), K⟩
          · have h132 : (decide (taskP Y74)) = true := Bool.not_inj (y := true) h130
            have ph132 := of_decide_eq_true h132
            refine WL.rw (t := 105) (v := .bool false) (congrArg Value.bool h130) (k := ?_)
            refine WL.skip (d := 106) (k := ?_)
            refine WL.skip (d := 107) (k := ?_)
            refine WL.op (d := 108) (.bool false) (k := ?_)
            refine WL.op (d := 2) (.bool false) (k := ?_)
            refine WL.nil ?_
            refine WX.seqN ?_
            refine WC.ret ?_
            refine WX.ret (rs := [.tmp 2]) [.bool false] (.bool false) ⟨(by kernel_rfl), trivial⟩ (k := ?_)
            exact absurd ph132 (hY74 ▸ task_more hok_ (by decide))
        · have h133 : (decide (taskP Y68)) = true := Bool.not_inj (y := true) h128
          have ph133 := of_decide_eq_true h133
          refine WL.rw (t := 101) (v := .bool false) (congrArg Value.bool h128) (k := ?_)
          refine WL.skip (d := 102) (k := ?_)
          refine WL.skip (d := 103) (k := ?_)
          refine WL.op (d := 104) (.bool false) (k := ?_)
          refine WL.op (d := 105) (.bool false) (k := ?_)
          refine WL.skip (d := 106) (k := ?_)
          refine WL.skip (d := 107) (k := ?_)
          refine WL.op (d := 108) (.bool false) (k := ?_)
          refine WL.op (d := 2) (.bool false) (k := ?_)
          refine WL.nil ?_
          refine WX.seqN ?_
          refine WC.ret ?_
          refine WX.ret (rs := [.tmp 2]) [.bool false] (.bool false) ⟨(by kernel_rfl), trivial⟩ (k := ?_)
          exact absurd ph133 (hY68 ▸ task_more hok_ (by decide))
      · have h134 : (decide (taskP Y62)) = true := Bool.not_inj (y := true) h126
        have ph134 := of_decide_eq_true h134
        refine WL.rw (t := 97) (v := .bool false) (congrArg Value.bool h126) (k := ?_)
        refine WL.skip (d := 98) (k := ?_)
        refine WL.skip (d := 99) (k := ?_)
        refine WL.op (d := 100) (.bool false) (k := ?_)
        refine WL.op (d := 101) (.bool false) (k := ?_)
        refine WL.skip (d := 102) (k := ?_)
        refine WL.skip (d := 103) (k := ?_)
        refine WL.op (d := 104) (.bool false) (k := ?_)
        refine WL.op (d := 105) (.bool false) (k := ?_)
        refine WL.skip (d := 106) (k := ?_)
        refine WL.skip (d := 107) (k := ?_)
        refine WL.op (d := 108) (.bool false) (k := ?_)
        refine WL.op (d := 2) (.bool false) (k := ?_)
        refine WL.nil ?_
        refine WX.seqN ?_
        refine WC.ret ?_
        refine WX.ret (rs := [.tmp 2]) [.bool false] (.bool false) ⟨(by kernel_rfl), trivial⟩ (k := ?_)
        exact absurd ph134 (hY62 ▸ task_n1 hok_)
    · have ph125 := of_decide_eq_false h125
      refine WL.rw (t := 93) (v := .bool false) (congrArg Value.bool h125) (k := ?_)
      refine WL.skip (d := 94) (k := ?_)
      refine WL.skip (d := 95) (k := ?_)
      refine WL.op (d := 96) (.bool false) (k := ?_)
      refine WL.op (d := 97) (.bool false) (k := ?_)
      refine WL.skip (d := 98) (k := ?_)
      refine WL.skip (d := 99) (k := ?_)
      refine WL.op (d := 100) (.bool false) (k := ?_)
      refine WL.op (d := 101) (.bool false) (k := ?_)
      refine WL.skip (d := 102) (k := ?_)
      refine WL.skip (d := 103) (k := ?_)
      refine WL.op (d := 104) (.bool false) (k := ?_)
      refine WL.op (d := 105) (.bool false) (k := ?_)
      refine WL.skip (d := 106) (k := ?_)
      refine WL.skip (d := 107) (k := ?_)
      refine WL.op (d := 108) (.bool false) (k := ?_)
      refine WL.op (d := 2) (.bool false) (k := ?_)
      refine WL.nil ?_
      refine WX.seqN ?_
      refine WC.ret ?_
      refine WX.ret (rs := [.tmp 2]) [.bool false] (.bool false) ⟨(by kernel_rfl), trivial⟩ (k := ?_)
      exact absurd (task_rt hok_).1 ph125
  · have ph124 := of_decide_eq_false h124
    refine WL.rw (t := 88) (v := .bool false) (congrArg Value.bool h124) (k := ?_)
    refine WL.skip (d := 89) (k := ?_)
    refine WL.skip (d := 90) (k := ?_)
    refine WL.skip (d := 91) (k := ?_)
    refine WL.op (d := 92) (.bool false) (k := ?_)
    refine WL.op (d := 93) (.bool false) (k := ?_)
    refine WL.skip (d := 94) (k := ?_)
    refine WL.skip (d := 95) (k := ?_)
    refine WL.op (d := 96) (.bool false) (k := ?_)
    refine WL.op (d := 97) (.bool false) (k := ?_)
    refine WL.skip (d := 98) (k := ?_)
    refine WL.skip (d := 99) (k := ?_)
    refine WL.op (d := 100) (.bool false) (k := ?_)
    refine WL.op (d := 101) (.bool false) (k := ?_)
    refine WL.skip (d := 102) (k := ?_)
    refine WL.skip (d := 103) (k := ?_)
    refine WL.op (d := 104) (.bool false) (k := ?_)
    refine WL.op (d := 105) (.bool false) (k := ?_)
    refine WL.skip (d := 106) (k := ?_)
    refine WL.skip (d := 107) (k := ?_)
    refine WL.op (d := 108) (.bool false) (k := ?_)
    refine WL.op (d := 2) (.bool false) (k := ?_)
    refine WL.nil ?_
    refine WX.seqN ?_
    refine WC.ret ?_
    refine WX.ret (rs := [.tmp 2]) [.bool false] (.bool false) ⟨(by kernel_rfl), trivial⟩ (k := ?_)
    exact absurd (task_rt hok_).2 (by rw [h124]; decide)
end Go.Proofs.YtoeinhlmkpgjhaaDoor
namespace Go.Proofs.YtoeinhlmkpgjhaaDoor
open Go.RowKit
set_option linter.unusedVariables false
theorem gb_of {W : World} (hsh : W.ShapedOpen Tryd.prog) (hL : laidMetH Tryd.prog Rows.linesTasksRow.laid W) : GB W := by
  refine ⟨?_, ?_, ?_⟩
  · exact cell_of_shapedOpen_int hsh (of_decide_eq_true (by kernel_rfl)) (zero := #[.int .i64 0]) (t := 3) (by kernel_rfl) rfl (by kernel_rfl) (by kernel_rfl) Tryd.underlying3
  · have h := hL.filter (fun x => x.1 == "internal/strconv.uint64pow10")
    rw [MakeChecks.laidMetH_plain _ _ _ (by kernel_rfl)] at h
    exact Lib.tabIs_of_head (rest := []) (n := 20) (e := 115) (g := 1) (t := (((Tryd.prog.globals[1]?).map (·.type)).getD 0)) (by kernel_rfl) (by kernel_rfl) (by kernel_rfl) (by kernel_rfl) (by kernel_rfl) (by kernel_rfl) h
  · have e : (((begin Tryd.prog (fun _ _ => 0) default).world.heap[5]?).bind Obj.row?).isSome = true := by kernel_rfl
    obtain ⟨⟨z, t⟩, hz⟩ := Option.isSome_iff_exists.1 e
    obtain ⟨cs, hh, _⟩ := hsh.1 5 z t (of_decide_eq_true (by kernel_rfl)) hz
    exact lt_of_heap hh
end Go.Proofs.YtoeinhlmkpgjhaaDoor
