/- Lq62, Lq63, Lq6c, Ln23, Lq7, Gbr, Args0: one behind the other. -/
import Derived.Test.YtoeinhlmkpgjhaaGreatDoorPr5
namespace Go.Proofs.YtoeinhlmkpgjhaaGreatDoor
open Go.RowKit
set_option linter.unusedVariables false
set_option linter.unusedSimpArgs false
set_option maxRecDepth 100000 in
set_option maxHeartbeats 4000000 in
theorem u25command_2 {A : Option Addr} {cp : Nat} {ws : Words} {w : World} (hA : SlAt strC 1 9 A ws w) (hn : ws.length ≤ 1000000) (hx : ∀ x ∈ ws, x.length ≤ 1000000) (h0 : 0 < ws.length) (hc1 : ws.length ≤ cp) (hc2 : cp ≤ 9223372036854775807) (hk : ws.length = 2) : Calls Tryz.prog 25 #[.slice A ws.length cp] w (GotR ws w) := by
  have K : Keeps (fun _ => False) w w := Keeps.refl _ w
  refine Calls.start Tryz.func25 rfl (by kernel_rfl) ?_
  refine WC.seq ?_
  refine WC.region ?_
  refine WL.new (d := 2) (T := 53) (Value.cells (gotV 0 GOp.zero 0 0 0 none 0 0 false)) (k := fun b1 w2 g3 hb4 k5 => ?_)
  have z6 := Nat.le_trans K.size g3
  replace K := K.trans (k5.any _)
  refine WL.nil ?_
  refine WX.seqN ?_
  refine WC.seq ?_
  refine WC.region ?_
  refine WL.newF (d := 9) (T := 2) #[.int .i64 (-1), .int .i64 (-1)] (fun b => .slice (some ⟨b, 0, none⟩) 2 2) (k := fun b7 w8 g9 hb10 k11 => ?_)
  have z12 := Nat.le_trans K.size g9
  have n13 : b1 ≠ b7 := Nat.ne_of_lt (Nat.lt_of_lt_of_le (lt_of_heap hb4) g9)
  replace hb4 := k11.heap hb4 id
  replace K := K.trans (k11.any _)
  refine WL.op (d := 3) (.slice (some ⟨b7, 0, none⟩) 2 2) (k := ?_)
  refine WL.nil ?_
  refine WX.seqN ?_
  refine WC.seq ?_
  refine WC.seq ?_
  have h14 : decide ((1 : Int) < (ws.length : Int)) = true := decide_eq_true (by omega)
  have h15 : decide ((2 : Int) < (ws.length : Int)) = false := decide_eq_false (by omega)
  refine WC.region ?_
  refine WL.op (d := 4) (.int .i64 0) (k := ?_)
  refine WL.nil ?_
  refine WX.seqN ?_
  refine WC.block ?_
  refine WC.rounds 3 ?_
  refine WC.seq ?_
  refine WC.seq ?_
  refine WC.region ?_
  refine WL.op (d := 10) (.int .i64 0) (k := ?_)
  refine WL.op (d := 11) (.bool true) (k := ?_)
  refine WL.op (d := 12) (.bool true) (k := ?_)
  refine WL.op (d := 13) (.int .i64 0) (k := ?_)
  refine WL.op (d := 14) (.int .i64 1) (k := ?_)
  refine WL.op (d := 15) (.slice A ws.length cp) (k := ?_)
  refine WL.op (d := 16) (.int .i64 (ws.length : Int)) (k := ?_)
  refine WL.op (d := 17) (.bool (decide ((1 : Int) < (ws.length : Int)))) (k := ?_)
  refine WL.op (d := 18) (.bool (decide ((1 : Int) < (ws.length : Int)))) (k := ?_)
  refine WL.nil ?_
  refine WX.seqN ?_
  refine WC.rw (t := 18) (v := .bool true) (congrArg Value.bool h14) (k := ?_)
  refine WC.condT (k := ?_)
  refine WC.skip ?_
  refine WX.seqN ?_
  refine WC.seq ?_
  refine WC.block ?_
  refine WC.region ?_
  refine WL.op (d := 21) (.slice (some ⟨b7, 0, none⟩) 2 2) (k := ?_)
  refine WL.op (d := 22) (.int .i64 0) (k := ?_)
  refine WL.op (d := 23) (.slice A ws.length cp) (k := ?_)
  refine WL.op (d := 24) (.int .i64 0) (k := ?_)
  refine WL.op (d := 25) (.int .i64 1) (k := ?_)
  obtain ⟨b16, o17, r18, hr19, hA20, he21⟩ := SlAt.at hA (i := 1) (by omega) (by omega)
  refine WL.rw (t := 23) (v := .slice (some ⟨b16, o17, none⟩) ws.length cp) (congrArg (fun a => Value.slice a ws.length cp) hA20) (k := ?_)
  have wx22 := hx _ (List.mem_of_getElem? hr19)
  refine WL.idx (T := 43) (E := 9) (m := 1) (b := b16) (o := o17) (len := ws.length) (cap := cp) (i := 1) (kk := .i64) (d := 26) (by omega) (by omega) (k := ?_)
  refine WL.rw (t := 23) (v := .slice A ws.length cp) (congrArg (fun a => Value.slice a ws.length cp) (Eq.symm hA20)) (k := ?_)
  refine WL.load (v := .string ⟨(r18).toArray⟩) ((he21.adds K).ld0 (T := 9)) (k := ?_)
  refine WL.callG (d := 28) (f := 31) (args := #[.string ⟨(r18).toArray⟩]) (u25number_c (l := r18) (by first | omega | (simp; omega)) w8) (k := fun e_ w24 h_ => ⟨.int .i64 (numR r18), h_.1, ?_⟩)
  have k25 := h_.2; clear h_
  replace hb4 := k25.heap hb4 id
  replace hb10 := k25.heap hb10 id
  replace K := K.trans (k25.any _)
  have nr23 := numR_rng r18
  refine WL.op (d := 29) (.pointer (some ⟨b7, 0, none⟩)) (k := ?_)
  refine WL.store (v := .int .i64 (numR r18)) (i := 0) (cs' := #[.int .i64 (numR r18), .int .i64 (-1)]) hb10 (k := fun w26 hb27 k28 => ?_)
  replace hb4 := k28.heap hb4 n13
  replace K := K.trans' k28 (fun i hi e => absurd (e ▸ hi) (Nat.not_lt.2 z12))
  clear hb10
  refine WL.nil ?_
  refine WX.blockN ?_
  refine WX.seqN ?_
  refine WC.region ?_
  refine WL.op (d := 19) (.int .i64 0) (k := ?_)
  refine WL.op (d := 20) (.int .i64 1) (k := ?_)
  refine WL.op (d := 4) (.int .i64 1) (k := ?_)
  refine WL.nil ?_
  refine WX.more ?_
  refine WC.seq ?_
  refine WC.seq ?_
  refine WC.region ?_
  refine WL.op (d := 10) (.int .i64 1) (k := ?_)
  refine WL.op (d := 11) (.bool true) (k := ?_)
  refine WL.op (d := 12) (.bool true) (k := ?_)
  refine WL.op (d := 13) (.int .i64 1) (k := ?_)
  refine WL.op (d := 14) (.int .i64 2) (k := ?_)
  refine WL.op (d := 15) (.slice A ws.length cp) (k := ?_)
  refine WL.op (d := 16) (.int .i64 (ws.length : Int)) (k := ?_)
  refine WL.op (d := 17) (.bool (decide ((2 : Int) < (ws.length : Int)))) (k := ?_)
  refine WL.op (d := 18) (.bool (decide ((2 : Int) < (ws.length : Int)))) (k := ?_)
  refine WL.nil ?_
  refine WX.seqN ?_
  refine WC.rw (t := 18) (v := .bool false) (congrArg Value.bool h15) (k := ?_)
  refine WC.condF (k := ?_)
  refine WC.exit ?_
  refine WX.seqE ?_
  refine WX.seqE ?_
  refine WX.blockE ?_
  refine WX.seqN ?_
  refine WC.seq ?_
  have h29 : ((ws.length : Int) == 2) = true := beq_iff_eq.2 (by omega)
  have h30 : ((ws.length : Int) != 2) = false := bne_eq_false_iff_eq.2 (by omega)
  have h31 : ((ws.length : Int) == 3) = false := beq_eq_false_iff_ne.2 (by omega)
  have h32 : ((ws.length : Int) != 3) = true := bne_iff_ne.2 (by omega)
  refine WC.region ?_
  refine WL.op (d := 30) (.slice A ws.length cp) (k := ?_)
  refine WL.op (d := 31) (.int .i64 (ws.length : Int)) (k := ?_)
  refine WL.op (d := 32) (.bool ((ws.length : Int) == 2)) (k := ?_)
  refine WL.op (d := 33) (.bool ((ws.length : Int) == 2)) (k := ?_)
  refine WL.rw (t := 33) (v := .bool true) (congrArg Value.bool h29) (k := ?_)
  refine WL.op (d := 34) (.slice (some ⟨b7, 0, none⟩) 2 2) (k := ?_)
  refine WL.op (d := 35) (.pointer (some ⟨b7, 0, none⟩)) (k := ?_)
  refine WL.load (v := .int .i64 (numR r18)) (ld1 (T := 2) (i := 0) hb27) (k := ?_)
  refine WL.op (d := 37) (.bool (decide ((numR r18) ≥ 0))) (k := ?_)
  refine WL.op (d := 38) (.bool (decide ((numR r18) ≥ 0))) (k := ?_)
  refine WL.op (d := 5) (.bool (decide ((numR r18) ≥ 0))) (k := ?_)
  refine WL.nil ?_
  refine WX.seqN ?_
  refine WC.seq ?_
  refine WC.region ?_
  refine WL.op (d := 39) (.slice A ws.length cp) (k := ?_)
  refine WL.op (d := 40) (.int .i64 (ws.length : Int)) (k := ?_)
  refine WL.op (d := 41) (.bool ((ws.length : Int) == 3)) (k := ?_)
  refine WL.op (d := 42) (.bool ((ws.length : Int) == 3)) (k := ?_)
  refine WL.rw (t := 42) (v := .bool false) (congrArg Value.bool h31) (k := ?_)
  refine WL.skip (d := 43) (k := ?_)
  refine WL.skip (d := 44) (k := ?_)
  refine WL.skip (d := 45) (k := ?_)
  refine WL.skip (d := 46) (k := ?_)
  refine WL.op (d := 47) (.bool false) (k := ?_)
  refine WL.op (d := 48) (.bool false) (k := ?_)
  refine WL.skip (d := 49) (k := ?_)
  refine WL.skip (d := 50) (k := ?_)
  refine WL.skip (d := 51) (k := ?_)
  refine WL.skip (d := 52) (k := ?_)
  refine WL.op (d := 53) (.bool false) (k := ?_)
  refine WL.op (d := 6) (.bool false) (k := ?_)
  refine WL.nil ?_
  refine WX.seqN ?_
  refine WC.seq ?_
  refine WC.seq ?_
  refine WC.region ?_
  refine WL.op (d := 54) (.slice A ws.length cp) (k := ?_)
  obtain ⟨b33, o34, r35, hr36, hA37, he38⟩ := SlAt.at hA (i := 0) (by omega) (by omega)
  refine WL.rw (t := 54) (v := .slice (some ⟨b33, o34, none⟩) ws.length cp) (congrArg (fun a => Value.slice a ws.length cp) hA37) (k := ?_)
  have wx39 := hx _ (List.mem_of_getElem? hr36)
  refine WL.idx (T := 43) (E := 9) (m := 1) (b := b33) (o := o34) (len := ws.length) (cap := cp) (i := 0) (kk := .i64) (d := 55) (by omega) (by omega) (k := ?_)
  refine WL.rw (t := 54) (v := .slice A ws.length cp) (congrArg (fun a => Value.slice a ws.length cp) (Eq.symm hA37)) (k := ?_)
  refine WL.load (v := .string ⟨(r35).toArray⟩) ((he38.adds K).ld0 (T := 9)) (k := ?_)
  refine WL.nil ?_
  refine WX.seqN ?_
  refine WC.block ?_
  refine WC.seq ?_
  refine WC.seq ?_
  refine WC.region ?_
  refine WL.opE (d := 58) (.bool (ByteArray.toList ⟨(r35).toArray⟩ == ByteArray.toList ⟨([97, 100, 109, 105, 116]).toArray⟩)) (v := .bool (decide (r35 = [97, 100, 109, 105, 116]))) (str_eql _ _) (k := ?_)
  refine WL.op (d := 57) (.bool (decide (r35 = [97, 100, 109, 105, 116]))) (k := ?_)
  refine WL.nil ?_
  refine WX.seqN ?_
  refine WC.cond (b := decide (r35 = [97, 100, 109, 105, 116])) (ht := fun h40 => ?_) (hf := fun h40 => ?_)
  · have ph40 := of_decide_eq_true h40
    refine WC.skip ?_
    refine WX.seqN ?_
    refine WC.rw (t := 57) (v := .bool true) (congrArg Value.bool h40) (k := ?_)
    refine WC.condT (k := ?_)
    refine WC.seq ?_
    refine WC.seq ?_
    refine WC.region ?_
    refine WL.op (d := 60) (.slice A ws.length cp) (k := ?_)
    refine WL.op (d := 61) (.int .i64 (ws.length : Int)) (k := ?_)
    refine WL.op (d := 62) (.bool ((ws.length : Int) != 2)) (k := ?_)
    refine WL.nil ?_
    refine WX.seqN ?_
    refine WC.rw (t := 62) (v := .bool false) (congrArg Value.bool h30) (k := ?_)
    refine WC.condF (k := ?_)
    refine WC.skip ?_
    refine WX.seqN ?_
    refine WC.seq ?_
    refine WC.region ?_
    refine WL.op (d := 65) (.slice A ws.length cp) (k := ?_)
    obtain ⟨b41, o42, r43, hr44, hA45, he46⟩ := SlAt.at hA (i := 1) (by omega) (by omega)
    refine WL.rw (t := 65) (v := .slice (some ⟨b41, o42, none⟩) ws.length cp) (congrArg (fun a => Value.slice a ws.length cp) hA45) (k := ?_)
    obtain rfl : r18 = r43 := Option.some.inj (hr19.symm.trans hr44)
    have wx47 := hx _ (List.mem_of_getElem? hr19)
    refine WL.idx (T := 43) (E := 9) (m := 1) (b := b41) (o := o42) (len := ws.length) (cap := cp) (i := 1) (kk := .i64) (d := 66) (by omega) (by omega) (k := ?_)
    refine WL.rw (t := 65) (v := .slice A ws.length cp) (congrArg (fun a => Value.slice a ws.length cp) (Eq.symm hA45)) (k := ?_)
    refine WL.load (v := .string ⟨(r18).toArray⟩) ((he46.adds K).ld0 (T := 9)) (k := ?_)
    refine WL.callG (d := 68) (f := 11) (args := #[.string ⟨(r18).toArray⟩]) (u25ParseTask_c (l := r18) (by first | omega | (simp; omega)) w26) (k := fun e_ w48 h_ => ⟨.tuple #[GTask.val (taskV r18), .bool (decide (taskP r18))], h_.1, ?_⟩)
    have k49 := h_.2; clear h_
    replace hb4 := k49.heap hb4 id
    replace hb27 := k49.heap hb27 id
    replace K := K.trans (k49.any _)
    refine WL.op (d := 64) (.tuple #[GTask.val (taskV r18), .bool (decide (taskP r18))]) (k := ?_)
    refine WL.op (d := 69) (GTask.val (taskV r18)) (k := ?_)
    refine WL.op (d := 70) (.bool (decide (taskP r18))) (k := ?_)
    refine WL.new (d := 7) (T := 29) #[.int .i64 0, .int .i64 0, .int .i64 0, .int .i64 0, .int .i64 0] (k := fun b50 w51 g52 hb53 k54 => ?_)
    have z55 := Nat.le_trans K.size g52
    have n56 : b1 ≠ b50 := Nat.ne_of_lt (Nat.lt_of_lt_of_le (lt_of_heap hb4) g52)
    have n57 : b7 ≠ b50 := Nat.ne_of_lt (Nat.lt_of_lt_of_le (lt_of_heap hb27) g52)
    replace hb4 := k54.heap hb4 id
    replace hb27 := k54.heap hb27 id
    replace K := K.trans (k54.any _)
    refine WL.store (v := GTask.val (taskV r18)) (i := 0) (cs' := (Value.cells (GTask.val (taskV r18)))) hb53 (k := fun w58 hb59 k60 => ?_)
    replace hb4 := k60.heap hb4 n56
    replace hb27 := k60.heap hb27 n57
    replace K := K.trans' k60 (fun i hi e => absurd (e ▸ hi) (Nat.not_lt.2 z55))
    clear hb53
    refine WL.op (d := 8) (.bool (decide (taskP r18))) (k := ?_)
    refine WL.nil ?_
    refine WX.seqN ?_
    refine WC.seq ?_
    refine WC.mixed (fun _ => False) 9 (k := fun w61 k62 => ?_)
    replace hb4 := k62.heap hb4 id
    replace hb27 := k62.heap hb27 id
    replace hb59 := k62.heap hb59 id
    replace K := K.trans (k62.any _)
    have KC := Keeps.refl (fun _ => False) w61
    have bh63 := hb4
    have bh64 := hb27
    have bh65 := hb59
    have Kb := K
    refine WA.quietR 0 (d := 71) (GTask.val (taskV r18)) KC (exec_load (fun w_ k_ => ldN (T := 29) (i := 0) (m := 5) (l := (Value.cells (GTask.val (taskV r18))).toList) (k_.heap bh65 id))) (hi := rfl) (k := ?_)
    refine WA.quiet 1 (d := 72) (.slice A ws.length cp) KC (hi := rfl) (k := ?_)
    obtain ⟨b66, o67, r68, hr69, hA70, he71⟩ := SlAt.at hA (i := 0) (by omega) (by omega)
    refine WA.rw (t := 72) (v := .slice (some ⟨b66, o67, none⟩) ws.length cp) (congrArg (fun a => Value.slice a ws.length cp) hA70) (k := ?_)
    obtain rfl : r35 = r68 := Option.some.inj (hr36.symm.trans hr69)
    have wx72 := hx _ (List.mem_of_getElem? hr36)
    refine WA.quietR 2 (d := 73) (.pointer (some ⟨b66, o67 + (0 : Int).toNat * 1, none⟩)) KC (exec_idx (T := 43) (E := 9) (m := 1) (b := b66) (o := o67) (len := ws.length) (cap := cp) (i := 0) (kk := .i64) (by omega) (by omega)) (hi := rfl) (k := ?_)
    refine WA.rw (t := 72) (v := .slice A ws.length cp) (congrArg (fun a => Value.slice a ws.length cp) (Eq.symm hA70)) (k := ?_)
    refine WA.quietR 3 (d := 74) (.string ⟨(r35).toArray⟩) KC (exec_load (fun w_ k_ => ((he71.adds Kb).adds k_).ld0 (T := 9))) (hi := rfl) (k := ?_)
    refine WA.quiet 4 (d := 75) (.bool (ByteArray.toList ⟨(r35).toArray⟩ == ByteArray.toList ⟨([115, 101, 114, 118, 101]).toArray⟩)) KC (hi := rfl) (k := ?_)
    refine WA.rw (t := 75) (v := .bool (decide (r35 = [115, 101, 114, 118, 101]))) (str_eql _ _) (k := ?_)
    refine WA.quiet 5 (d := 76) (.agg #[.int .i64 1, .int .i64 ((taskV r18).id), .int .i64 ((taskV r18).c), .int .i64 ((taskV r18).d), .int .i64 ((taskV r18).t), .int .i64 ((taskV r18).m), .bool (decide (r35 = [115, 101, 114, 118, 101])), .int .i64 0, .int .i64 0, .int .i64 0]) KC (hi := rfl) (k := ?_)
    refine WA.quiet 6 (d := 77) (.agg #[.int .i64 1, .int .i64 1, .int .i64 ((taskV r18).id), .int .i64 ((taskV r18).c), .int .i64 ((taskV r18).d), .int .i64 ((taskV r18).t), .int .i64 ((taskV r18).m), .bool (decide (r35 = [115, 101, 114, 118, 101])), .int .i64 0, .int .i64 0, .int .i64 0, .int .i64 0, .int .i64 0, .int .i64 0, .slice none 0 0]) KC (hi := rfl) (k := ?_)
    refine WA.quiet 7 (d := 78) (.bool (decide (taskP r18))) KC (hi := rfl) (k := ?_)
    refine WA.quiet 8 (d := 79) (gotV 1 (⟨1, (taskV r18), decide (r35 = [115, 101, 114, 118, 101]), 0, 0, 0⟩ : GOp) 0 0 0 none 0 0 (decide (taskP r18))) KC (hi := rfl) (k := ?_)
    refine WA.step 9 (hi := rfl) (k := ?_)
    refine WL.store (v := gotV 1 (⟨1, (taskV r18), decide (r35 = [115, 101, 114, 118, 101]), 0, 0, 0⟩ : GOp) 0 0 0 none 0 0 (decide (taskP r18))) (i := 0) (cs' := (Value.cells (gotV 1 (⟨1, (taskV r18), decide (r35 = [115, 101, 114, 118, 101]), 0, 0, 0⟩ : GOp) 0 0 0 none 0 0 (decide (taskP r18))))) hb4 (k := fun w73 hb74 k75 => ?_)
    replace hb27 := k75.heap hb27 (Ne.symm n13)
    replace hb59 := k75.heap hb59 (Ne.symm n56)
    replace K := K.trans' k75 (fun i hi e => absurd (e ▸ hi) (Nat.not_lt.2 z6))
    clear hb4
    refine WL.nil ?_
    refine WX.nxtL ?_
    refine WA.done (k := ?_)
    clear KC
    refine WX.seqN ?_
    refine WC.ret ?_
    refine WX.blockR ?_
    refine WX.seqR ?_
    refine WX.ret (rs := [.cell 2 53]) [gotV 1 (⟨1, (taskV r18), decide (r35 = [115, 101, 114, 118, 101]), 0, 0, 0⟩ : GOp) 0 0 0 none 0 0 (decide (taskP r18))] (gotV 1 (⟨1, (taskV r18), decide (r35 = [115, 101, 114, 118, 101]), 0, 0, 0⟩ : GOp) 0 0 0 none 0 0 (decide (taskP r18))) ⟨⟨_, (by kernel_rfl), ldN (T := 53) (i := 0) (m := 16) (l := (Value.cells (gotV 1 (⟨1, (taskV r18), decide (r35 = [115, 101, 114, 118, 101]), 0, 0, 0⟩ : GOp) 0 0 0 none 0 0 (decide (taskP r18)))).toList) hb74⟩, trivial⟩ (k := ?_)
    exact ⟨(⟨⟨1, (⟨1, (taskV r18), decide (r35 = [115, 101, 114, 118, 101]), 0, 0, 0⟩ : GOp), 0, 0, 0, []⟩, none, 0⟩ : GCmd), decide (taskP r18), rfl, OwAt.nil, (by simp [blk]), (q_task hr36 (.inl ph40) (by omega) hr19), (by simp), K⟩
  · have ph40 := of_decide_eq_false h40
    refine WC.region ?_
    refine WL.opE (d := 59) (.bool (ByteArray.toList ⟨(r35).toArray⟩ == ByteArray.toList ⟨([115, 101, 114, 118, 101]).toArray⟩)) (v := .bool (decide (r35 = [115, 101, 114, 118, 101]))) (str_eql _ _) (k := ?_)
    refine WL.op (d := 57) (.bool (decide (r35 = [115, 101, 114, 118, 101]))) (k := ?_)
    refine WL.nil ?_
    refine WX.seqN ?_
    refine WC.cond (b := decide (r35 = [115, 101, 114, 118, 101])) (ht := fun h76 => ?_) (hf := fun h76 => ?_)
    · have ph76 := of_decide_eq_true h76
      refine WC.seq ?_
      refine WC.seq ?_
      refine WC.region ?_
      refine WL.op (d := 60) (.slice A ws.length cp) (k := ?_)
      refine WL.op (d := 61) (.int .i64 (ws.length : Int)) (k := ?_)
      refine WL.op (d := 62) (.bool ((ws.length : Int) != 2)) (k := ?_)
      refine WL.nil ?_
      refine WX.seqN ?_
      refine WC.rw (t := 62) (v := .bool false) (congrArg Value.bool h30) (k := ?_)
      refine WC.condF (k := ?_)
      refine WC.skip ?_
      refine WX.seqN ?_
      refine WC.seq ?_
      refine WC.region ?_
      refine WL.op (d := 65) (.slice A ws.length cp) (k := ?_)
      obtain ⟨b77, o78, r79, hr80, hA81, he82⟩ := SlAt.at hA (i := 1) (by omega) (by omega)
      refine WL.rw (t := 65) (v := .slice (some ⟨b77, o78, none⟩) ws.length cp) (congrArg (fun a => Value.slice a ws.length cp) hA81) (k := ?_)
      obtain rfl : r18 = r79 := Option.some.inj (hr19.symm.trans hr80)
      have wx83 := hx _ (List.mem_of_getElem? hr19)
      refine WL.idx (T := 43) (E := 9) (m := 1) (b := b77) (o := o78) (len := ws.length) (cap := cp) (i := 1) (kk := .i64) (d := 66) (by omega) (by omega) (k := ?_)
      refine WL.rw (t := 65) (v := .slice A ws.length cp) (congrArg (fun a => Value.slice a ws.length cp) (Eq.symm hA81)) (k := ?_)
      refine WL.load (v := .string ⟨(r18).toArray⟩) ((he82.adds K).ld0 (T := 9)) (k := ?_)
      refine WL.callG (d := 68) (f := 11) (args := #[.string ⟨(r18).toArray⟩]) (u25ParseTask_c (l := r18) (by first | omega | (simp; omega)) w26) (k := fun e_ w84 h_ => ⟨.tuple #[GTask.val (taskV r18), .bool (decide (taskP r18))], h_.1, ?_⟩)
      have k85 := h_.2; clear h_
      replace hb4 := k85.heap hb4 id
      replace hb27 := k85.heap hb27 id
      replace K := K.trans (k85.any _)
      refine WL.op (d := 64) (.tuple #[GTask.val (taskV r18), .bool (decide (taskP r18))]) (k := ?_)
      refine WL.op (d := 69) (GTask.val (taskV r18)) (k := ?_)
      refine WL.op (d := 70) (.bool (decide (taskP r18))) (k := ?_)
      refine WL.new (d := 7) (T := 29) #[.int .i64 0, .int .i64 0, .int .i64 0, .int .i64 0, .int .i64 0] (k := fun b86 w87 g88 hb89 k90 => ?_)
      have z91 := Nat.le_trans K.size g88
      have n92 : b1 ≠ b86 := Nat.ne_of_lt (Nat.lt_of_lt_of_le (lt_of_heap hb4) g88)
      have n93 : b7 ≠ b86 := Nat.ne_of_lt (Nat.lt_of_lt_of_le (lt_of_heap hb27) g88)
      replace hb4 := k90.heap hb4 id
      replace hb27 := k90.heap hb27 id
      replace K := K.trans (k90.any _)
      refine WL.store (v := GTask.val (taskV r18)) (i := 0) (cs' := (Value.cells (GTask.val (taskV r18)))) hb89 (k := fun w94 hb95 k96 => ?_)
      replace hb4 := k96.heap hb4 n92
      replace hb27 := k96.heap hb27 n93
      replace K := K.trans' k96 (fun i hi e => absurd (e ▸ hi) (Nat.not_lt.2 z91))
      clear hb89
      refine WL.op (d := 8) (.bool (decide (taskP r18))) (k := ?_)
      refine WL.nil ?_
      refine WX.seqN ?_
      refine WC.seq ?_
      refine WC.mixed (fun _ => False) 9 (k := fun w97 k98 => ?_)
      replace hb4 := k98.heap hb4 id
      replace hb27 := k98.heap hb27 id
      replace hb95 := k98.heap hb95 id
      replace K := K.trans (k98.any _)
      have KC := Keeps.refl (fun _ => False) w97
      have bh99 := hb4
      have bh100 := hb27
      have bh101 := hb95
      have Kb := K
      refine WA.quietR 0 (d := 71) (GTask.val (taskV r18)) KC (exec_load (fun w_ k_ => ldN (T := 29) (i := 0) (m := 5) (l := (Value.cells (GTask.val (taskV r18))).toList) (k_.heap bh101 id))) (hi := rfl) (k := ?_)
      refine WA.quiet 1 (d := 72) (.slice A ws.length cp) KC (hi := rfl) (k := ?_)
      obtain ⟨b102, o103, r104, hr105, hA106, he107⟩ := SlAt.at hA (i := 0) (by omega) (by omega)
      refine WA.rw (t := 72) (v := .slice (some ⟨b102, o103, none⟩) ws.length cp) (congrArg (fun a => Value.slice a ws.length cp) hA106) (k := ?_)
      obtain rfl : r35 = r104 := Option.some.inj (hr36.symm.trans hr105)
      have wx108 := hx _ (List.mem_of_getElem? hr36)
      refine WA.quietR 2 (d := 73) (.pointer (some ⟨b102, o103 + (0 : Int).toNat * 1, none⟩)) KC (exec_idx (T := 43) (E := 9) (m := 1) (b := b102) (o := o103) (len := ws.length) (cap := cp) (i := 0) (kk := .i64) (by omega) (by omega)) (hi := rfl) (k := ?_)
      refine WA.rw (t := 72) (v := .slice A ws.length cp) (congrArg (fun a => Value.slice a ws.length cp) (Eq.symm hA106)) (k := ?_)
      refine WA.quietR 3 (d := 74) (.string ⟨(r35).toArray⟩) KC (exec_load (fun w_ k_ => ((he107.adds Kb).adds k_).ld0 (T := 9))) (hi := rfl) (k := ?_)
      refine WA.quiet 4 (d := 75) (.bool (ByteArray.toList ⟨(r35).toArray⟩ == ByteArray.toList ⟨([115, 101, 114, 118, 101]).toArray⟩)) KC (hi := rfl) (k := ?_)
      refine WA.rw (t := 75) (v := .bool (decide (r35 = [115, 101, 114, 118, 101]))) (str_eql _ _) (k := ?_)
      refine WA.quiet 5 (d := 76) (.agg #[.int .i64 1, .int .i64 ((taskV r18).id), .int .i64 ((taskV r18).c), .int .i64 ((taskV r18).d), .int .i64 ((taskV r18).t), .int .i64 ((taskV r18).m), .bool (decide (r35 = [115, 101, 114, 118, 101])), .int .i64 0, .int .i64 0, .int .i64 0]) KC (hi := rfl) (k := ?_)
      refine WA.quiet 6 (d := 77) (.agg #[.int .i64 1, .int .i64 1, .int .i64 ((taskV r18).id), .int .i64 ((taskV r18).c), .int .i64 ((taskV r18).d), .int .i64 ((taskV r18).t), .int .i64 ((taskV r18).m), .bool (decide (r35 = [115, 101, 114, 118, 101])), .int .i64 0, .int .i64 0, .int .i64 0, .int .i64 0, .int .i64 0, .int .i64 0, .slice none 0 0]) KC (hi := rfl) (k := ?_)
      refine WA.quiet 7 (d := 78) (.bool (decide (taskP r18))) KC (hi := rfl) (k := ?_)
      refine WA.quiet 8 (d := 79) (gotV 1 (⟨1, (taskV r18), decide (r35 = [115, 101, 114, 118, 101]), 0, 0, 0⟩ : GOp) 0 0 0 none 0 0 (decide (taskP r18))) KC (hi := rfl) (k := ?_)
      refine WA.step 9 (hi := rfl) (k := ?_)
      refine WL.store (v := gotV 1 (⟨1, (taskV r18), decide (r35 = [115, 101, 114, 118, 101]), 0, 0, 0⟩ : GOp) 0 0 0 none 0 0 (decide (taskP r18))) (i := 0) (cs' := (Value.cells (gotV 1 (⟨1, (taskV r18), decide (r35 = [115, 101, 114, 118, 101]), 0, 0, 0⟩ : GOp) 0 0 0 none 0 0 (decide (taskP r18))))) hb4 (k := fun w109 hb110 k111 => ?_)
      replace hb27 := k111.heap hb27 (Ne.symm n13)
      replace hb95 := k111.heap hb95 (Ne.symm n92)
      replace K := K.trans' k111 (fun i hi e => absurd (e ▸ hi) (Nat.not_lt.2 z6))
      clear hb4
      refine WL.nil ?_
      refine WX.nxtL ?_
      refine WA.done (k := ?_)
      clear KC
      refine WX.seqN ?_
      refine WC.ret ?_
      refine WX.blockR ?_
      refine WX.seqR ?_
      refine WX.ret (rs := [.cell 2 53]) [gotV 1 (⟨1, (taskV r18), decide (r35 = [115, 101, 114, 118, 101]), 0, 0, 0⟩ : GOp) 0 0 0 none 0 0 (decide (taskP r18))] (gotV 1 (⟨1, (taskV r18), decide (r35 = [115, 101, 114, 118, 101]), 0, 0, 0⟩ : GOp) 0 0 0 none 0 0 (decide (taskP r18))) ⟨⟨_, (by kernel_rfl), ldN (T := 53) (i := 0) (m := 16) (l := (Value.cells (gotV 1 (⟨1, (taskV r18), decide (r35 = [115, 101, 114, 118, 101]), 0, 0, 0⟩ : GOp) 0 0 0 none 0 0 (decide (taskP r18)))).toList) hb110⟩, trivial⟩ (k := ?_)
      exact ⟨(⟨⟨1, (⟨1, (taskV r18), decide (r35 = [115, 101, 114, 118, 101]), 0, 0, 0⟩ : GOp), 0, 0, 0, []⟩, none, 0⟩ : GCmd), decide (taskP r18), rfl, OwAt.nil, (by simp [blk]), (q_task hr36 (.inr ph76) (by omega) hr19), (by simp), K⟩
    · have ph76 := of_decide_eq_false h76
      refine WC.seq ?_
      refine WC.region ?_
      refine WL.opE (d := 81) (.bool (ByteArray.toList ⟨(r35).toArray⟩ == ByteArray.toList ⟨([114, 101, 109, 111, 118, 101]).toArray⟩)) (v := .bool (decide (r35 = [114, 101, 109, 111, 118, 101]))) (str_eql _ _) (k := ?_)
      refine WL.op (d := 80) (.bool (decide (r35 = [114, 101, 109, 111, 118, 101]))) (k := ?_)
      refine WL.nil ?_
      refine WX.seqN ?_
      refine WC.cond (b := decide (r35 = [114, 101, 109, 111, 118, 101])) (ht := fun h112 => ?_) (hf := fun h112 => ?_)
      · have ph112 := of_decide_eq_true h112
        refine WC.seq ?_
        refine WC.region ?_
        refine WL.op (d := 82) (.slice (some ⟨b7, 0, none⟩) 2 2) (k := ?_)
        refine WL.op (d := 83) (.pointer (some ⟨b7, 0, none⟩)) (k := ?_)
        refine WL.load (v := .int .i64 (numR r18)) (ld1 (T := 2) (i := 0) hb27) (k := ?_)
        refine WL.op (d := 85) (.agg #[.int .i64 2, .int .i64 0, .int .i64 0, .int .i64 0, .int .i64 0, .int .i64 0, .bool false, .int .i64 (numR r18), .int .i64 0, .int .i64 0]) (k := ?_)
        refine WL.op (d := 86) (.agg #[.int .i64 1, .int .i64 2, .int .i64 0, .int .i64 0, .int .i64 0, .int .i64 0, .int .i64 0, .bool false, .int .i64 (numR r18), .int .i64 0, .int .i64 0, .int .i64 0, .int .i64 0, .int .i64 0, .slice none 0 0]) (k := ?_)
        refine WL.op (d := 87) (.bool (decide ((numR r18) ≥ 0))) (k := ?_)
        refine WL.op (d := 88) (gotV 1 (⟨2, ⟨0, 0, 0, 0, 0⟩, false, (numR r18), 0, 0⟩ : GOp) 0 0 0 none 0 0 (decide ((numR r18) ≥ 0))) (k := ?_)
        refine WL.store (v := gotV 1 (⟨2, ⟨0, 0, 0, 0, 0⟩, false, (numR r18), 0, 0⟩ : GOp) 0 0 0 none 0 0 (decide ((numR r18) ≥ 0))) (i := 0) (cs' := (Value.cells (gotV 1 (⟨2, ⟨0, 0, 0, 0, 0⟩, false, (numR r18), 0, 0⟩ : GOp) 0 0 0 none 0 0 (decide ((numR r18) ≥ 0))))) hb4 (k := fun w113 hb114 k115 => ?_)
        replace hb27 := k115.heap hb27 (Ne.symm n13)
        replace K := K.trans' k115 (fun i hi e => absurd (e ▸ hi) (Nat.not_lt.2 z6))
        clear hb4
        refine WL.nil ?_
        refine WX.seqN ?_
        refine WC.ret ?_
        refine WX.blockR ?_
        refine WX.seqR ?_
        refine WX.ret (rs := [.cell 2 53]) [gotV 1 (⟨2, ⟨0, 0, 0, 0, 0⟩, false, (numR r18), 0, 0⟩ : GOp) 0 0 0 none 0 0 (decide ((numR r18) ≥ 0))] (gotV 1 (⟨2, ⟨0, 0, 0, 0, 0⟩, false, (numR r18), 0, 0⟩ : GOp) 0 0 0 none 0 0 (decide ((numR r18) ≥ 0))) ⟨⟨_, (by kernel_rfl), ldN (T := 53) (i := 0) (m := 16) (l := (Value.cells (gotV 1 (⟨2, ⟨0, 0, 0, 0, 0⟩, false, (numR r18), 0, 0⟩ : GOp) 0 0 0 none 0 0 (decide ((numR r18) ≥ 0)))).toList) hb114⟩, trivial⟩ (k := ?_)
        exact ⟨(⟨⟨1, (⟨2, ⟨0, 0, 0, 0, 0⟩, false, (numR r18), 0, 0⟩ : GOp), 0, 0, 0, []⟩, none, 0⟩ : GCmd), decide ((numR r18) ≥ 0), rfl, OwAt.nil, (by simp [blk]), (q_one (G := gRemove) (kw := kRemove) (hr36.trans (congrArg some ph112)) qb_remove (by omega) hr19), (by simp), K⟩
      · have ph112 := of_decide_eq_false h112
        refine WC.seq ?_
        refine WC.region ?_
        refine WL.opE (d := 90) (.bool (ByteArray.toList ⟨(r35).toArray⟩ == ByteArray.toList ⟨([114, 101, 115, 105, 122, 101]).toArray⟩)) (v := .bool (decide (r35 = [114, 101, 115, 105, 122, 101]))) (str_eql _ _) (k := ?_)
        refine WL.op (d := 89) (.bool (decide (r35 = [114, 101, 115, 105, 122, 101]))) (k := ?_)
        refine WL.nil ?_
        refine WX.seqN ?_
        refine WC.cond (b := decide (r35 = [114, 101, 115, 105, 122, 101])) (ht := fun h116 => ?_) (hf := fun h116 => ?_)
        · have ph116 := of_decide_eq_true h116
          refine WC.seq ?_
          refine WC.mixed (fun _ => False) 10 (k := fun w117 k118 => ?_)
          replace hb4 := k118.heap hb4 id
          replace hb27 := k118.heap hb27 id
          replace K := K.trans (k118.any _)
          have KC := Keeps.refl (fun _ => False) w117
          have bh119 := hb4
          have bh120 := hb27
          have Kb := K
          refine WA.quiet 0 (d := 91) (.slice (some ⟨b7, 0, none⟩) 2 2) KC (hi := rfl) (k := ?_)
          refine WA.quiet 1 (d := 92) (.pointer (some ⟨b7, 0, none⟩)) KC (hi := rfl) (k := ?_)
          refine WA.quietR 2 (d := 93) (.int .i64 (numR r18)) KC (exec_load (fun w_ k_ => ld1 (T := 2) (i := 0) (k_.heap bh120 id))) (hi := rfl) (k := ?_)
          refine WA.quiet 3 (d := 94) (.slice (some ⟨b7, 0, none⟩) 2 2) KC (hi := rfl) (k := ?_)
          refine WA.quiet 4 (d := 95) (.pointer (some ⟨b7, 1, none⟩)) KC (hi := rfl) (k := ?_)
          refine WA.quietR 5 (d := 96) (.int .i64 (-1)) KC (exec_load (fun w_ k_ => ld1 (T := 2) (i := 1) (k_.heap bh120 id))) (hi := rfl) (k := ?_)
          refine WA.quiet 6 (d := 97) (.agg #[.int .i64 3, .int .i64 0, .int .i64 0, .int .i64 0, .int .i64 0, .int .i64 0, .bool false, .int .i64 (numR r18), .int .i64 (-1), .int .i64 0]) KC (hi := rfl) (k := ?_)
          refine WA.quiet 7 (d := 98) (.agg #[.int .i64 1, .int .i64 3, .int .i64 0, .int .i64 0, .int .i64 0, .int .i64 0, .int .i64 0, .bool false, .int .i64 (numR r18), .int .i64 (-1), .int .i64 0, .int .i64 0, .int .i64 0, .int .i64 0, .slice none 0 0]) KC (hi := rfl) (k := ?_)
          refine WA.quiet 8 (d := 99) (.bool false) KC (hi := rfl) (k := ?_)
          refine WA.quiet 9 (d := 100) (gotV 1 (⟨3, ⟨0, 0, 0, 0, 0⟩, false, (numR r18), (-1), 0⟩ : GOp) 0 0 0 none 0 0 false) KC (hi := rfl) (k := ?_)
          refine WA.step 10 (hi := rfl) (k := ?_)
          refine WL.store (v := gotV 1 (⟨3, ⟨0, 0, 0, 0, 0⟩, false, (numR r18), (-1), 0⟩ : GOp) 0 0 0 none 0 0 false) (i := 0) (cs' := (Value.cells (gotV 1 (⟨3, ⟨0, 0, 0, 0, 0⟩, false, (numR r18), (-1), 0⟩ : GOp) 0 0 0 none 0 0 false))) hb4 (k := fun w121 hb122 k123 => ?_)
          replace hb27 := k123.heap hb27 (Ne.symm n13)
          replace K := K.trans' k123 (fun i hi e => absurd (e ▸ hi) (Nat.not_lt.2 z6))
          clear hb4
          refine WL.nil ?_
          refine WX.nxtL ?_
          refine WA.done (k := ?_)
          clear KC
          refine WX.seqN ?_
          refine WC.ret ?_
          refine WX.blockR ?_
          refine WX.seqR ?_
          refine WX.ret (rs := [.cell 2 53]) [gotV 1 (⟨3, ⟨0, 0, 0, 0, 0⟩, false, (numR r18), (-1), 0⟩ : GOp) 0 0 0 none 0 0 false] (gotV 1 (⟨3, ⟨0, 0, 0, 0, 0⟩, false, (numR r18), (-1), 0⟩ : GOp) 0 0 0 none 0 0 false) ⟨⟨_, (by kernel_rfl), ldN (T := 53) (i := 0) (m := 16) (l := (Value.cells (gotV 1 (⟨3, ⟨0, 0, 0, 0, 0⟩, false, (numR r18), (-1), 0⟩ : GOp) 0 0 0 none 0 0 false)).toList) hb122⟩, trivial⟩ (k := ?_)
          exact ⟨(⟨⟨1, (⟨3, ⟨0, 0, 0, 0, 0⟩, false, (numR r18), (-1), 0⟩ : GOp), 0, 0, 0, []⟩, none, 0⟩ : GCmd), false, rfl, OwAt.nil, (by simp [blk]), (q_two_no (G := gResize) (kw := kResize) (hr36.trans (congrArg some ph116)) qb_resize (by omega)), (by simp), K⟩
        · have ph116 := of_decide_eq_false h116
          refine WC.seq ?_
          refine WC.region ?_
          refine WL.opE (d := 102) (.bool (ByteArray.toList ⟨(r35).toArray⟩ == ByteArray.toList ⟨([109, 111, 100, 101]).toArray⟩)) (v := .bool (decide (r35 = [109, 111, 100, 101]))) (str_eql _ _) (k := ?_)
          refine WL.op (d := 101) (.bool (decide (r35 = [109, 111, 100, 101]))) (k := ?_)
          refine WL.nil ?_
          refine WX.seqN ?_
          refine WC.cond (b := decide (r35 = [109, 111, 100, 101])) (ht := fun h124 => ?_) (hf := fun h124 => ?_)
          · have ph124 := of_decide_eq_true h124
            refine WC.seq ?_
            refine WC.region ?_
            refine WL.op (d := 103) (.slice (some ⟨b7, 0, none⟩) 2 2) (k := ?_)
            refine WL.op (d := 104) (.pointer (some ⟨b7, 0, none⟩)) (k := ?_)
            refine WL.load (v := .int .i64 (numR r18)) (ld1 (T := 2) (i := 0) hb27) (k := ?_)
            refine WL.op (d := 106) (.agg #[.int .i64 4, .int .i64 0, .int .i64 0, .int .i64 0, .int .i64 0, .int .i64 0, .bool false, .int .i64 0, .int .i64 0, .int .i64 (numR r18)]) (k := ?_)
            refine WL.op (d := 107) (.agg #[.int .i64 1, .int .i64 4, .int .i64 0, .int .i64 0, .int .i64 0, .int .i64 0, .int .i64 0, .bool false, .int .i64 0, .int .i64 0, .int .i64 (numR r18), .int .i64 0, .int .i64 0, .int .i64 0, .slice none 0 0]) (k := ?_)
            refine WL.op (d := 108) (.bool (decide ((numR r18) ≥ 0))) (k := ?_)
            refine WL.op (d := 109) (gotV 1 (⟨4, ⟨0, 0, 0, 0, 0⟩, false, 0, 0, (numR r18)⟩ : GOp) 0 0 0 none 0 0 (decide ((numR r18) ≥ 0))) (k := ?_)
            refine WL.store (v := gotV 1 (⟨4, ⟨0, 0, 0, 0, 0⟩, false, 0, 0, (numR r18)⟩ : GOp) 0 0 0 none 0 0 (decide ((numR r18) ≥ 0))) (i := 0) (cs' := (Value.cells (gotV 1 (⟨4, ⟨0, 0, 0, 0, 0⟩, false, 0, 0, (numR r18)⟩ : GOp) 0 0 0 none 0 0 (decide ((numR r18) ≥ 0))))) hb4 (k := fun w125 hb126 k127 => ?_)
            replace hb27 := k127.heap hb27 (Ne.symm n13)
            replace K := K.trans' k127 (fun i hi e => absurd (e ▸ hi) (Nat.not_lt.2 z6))
            clear hb4
            refine WL.nil ?_
            refine WX.seqN ?_
            refine WC.ret ?_
            refine WX.blockR ?_
            refine WX.seqR ?_
            refine WX.ret (rs := [.cell 2 53]) [gotV 1 (⟨4, ⟨0, 0, 0, 0, 0⟩, false, 0, 0, (numR r18)⟩ : GOp) 0 0 0 none 0 0 (decide ((numR r18) ≥ 0))] (gotV 1 (⟨4, ⟨0, 0, 0, 0, 0⟩, false, 0, 0, (numR r18)⟩ : GOp) 0 0 0 none 0 0 (decide ((numR r18) ≥ 0))) ⟨⟨_, (by kernel_rfl), ldN (T := 53) (i := 0) (m := 16) (l := (Value.cells (gotV 1 (⟨4, ⟨0, 0, 0, 0, 0⟩, false, 0, 0, (numR r18)⟩ : GOp) 0 0 0 none 0 0 (decide ((numR r18) ≥ 0)))).toList) hb126⟩, trivial⟩ (k := ?_)
            exact ⟨(⟨⟨1, (⟨4, ⟨0, 0, 0, 0, 0⟩, false, 0, 0, (numR r18)⟩ : GOp), 0, 0, 0, []⟩, none, 0⟩ : GCmd), decide ((numR r18) ≥ 0), rfl, OwAt.nil, (by simp [blk]), (q_one (G := gMode) (kw := kMode) (hr36.trans (congrArg some ph124)) qb_mode (by omega) hr19), (by simp), K⟩
          · have ph124 := of_decide_eq_false h124
            refine WC.seq ?_
            refine WC.region ?_
            refine WL.opE (d := 111) (.bool (ByteArray.toList ⟨(r35).toArray⟩ == ByteArray.toList ⟨([114, 101, 108, 101, 97, 115, 101]).toArray⟩)) (v := .bool (decide (r35 = [114, 101, 108, 101, 97, 115, 101]))) (str_eql _ _) (k := ?_)
            refine WL.op (d := 110) (.bool (decide (r35 = [114, 101, 108, 101, 97, 115, 101]))) (k := ?_)
            refine WL.nil ?_
            refine WX.seqN ?_
            refine WC.cond (b := decide (r35 = [114, 101, 108, 101, 97, 115, 101])) (ht := fun h128 => ?_) (hf := fun h128 => ?_)
            · have ph128 := of_decide_eq_true h128
              refine WC.seq ?_
              refine WC.mixed (fun _ => False) 9 (k := fun w129 k130 => ?_)
              replace hb4 := k130.heap hb4 id
              replace hb27 := k130.heap hb27 id
              replace K := K.trans (k130.any _)
              have KC := Keeps.refl (fun _ => False) w129
              have bh131 := hb4
              have bh132 := hb27
              have Kb := K
              refine WA.quiet 0 (d := 112) (.slice (some ⟨b7, 0, none⟩) 2 2) KC (hi := rfl) (k := ?_)
              refine WA.quiet 1 (d := 113) (.pointer (some ⟨b7, 0, none⟩)) KC (hi := rfl) (k := ?_)
              refine WA.quietR 2 (d := 114) (.int .i64 (numR r18)) KC (exec_load (fun w_ k_ => ld1 (T := 2) (i := 0) (k_.heap bh132 id))) (hi := rfl) (k := ?_)
              refine WA.quiet 3 (d := 115) (.slice (some ⟨b7, 0, none⟩) 2 2) KC (hi := rfl) (k := ?_)
              refine WA.quiet 4 (d := 116) (.pointer (some ⟨b7, 1, none⟩)) KC (hi := rfl) (k := ?_)
              refine WA.quietR 5 (d := 117) (.int .i64 (-1)) KC (exec_load (fun w_ k_ => ld1 (T := 2) (i := 1) (k_.heap bh132 id))) (hi := rfl) (k := ?_)
              refine WA.quiet 6 (d := 118) (.agg #[.int .i64 2, .int .i64 0, .int .i64 0, .int .i64 0, .int .i64 0, .int .i64 0, .int .i64 0, .bool false, .int .i64 0, .int .i64 0, .int .i64 0, .int .i64 (numR r18), .int .i64 (-1), .int .i64 0, .slice none 0 0]) KC (hi := rfl) (k := ?_)
              refine WA.quiet 7 (d := 119) (.bool false) KC (hi := rfl) (k := ?_)
              refine WA.quiet 8 (d := 120) (gotV 2 GOp.zero (numR r18) (-1) 0 none 0 0 false) KC (hi := rfl) (k := ?_)
              refine WA.step 9 (hi := rfl) (k := ?_)
              refine WL.store (v := gotV 2 GOp.zero (numR r18) (-1) 0 none 0 0 false) (i := 0) (cs' := (Value.cells (gotV 2 GOp.zero (numR r18) (-1) 0 none 0 0 false))) hb4 (k := fun w133 hb134 k135 => ?_)
              replace hb27 := k135.heap hb27 (Ne.symm n13)
              replace K := K.trans' k135 (fun i hi e => absurd (e ▸ hi) (Nat.not_lt.2 z6))
              clear hb4
              refine WL.nil ?_
              refine WX.nxtL ?_
              refine WA.done (k := ?_)
              clear KC
              refine WX.seqN ?_
              refine WC.ret ?_
              refine WX.blockR ?_
              refine WX.seqR ?_
              refine WX.ret (rs := [.cell 2 53]) [gotV 2 GOp.zero (numR r18) (-1) 0 none 0 0 false] (gotV 2 GOp.zero (numR r18) (-1) 0 none 0 0 false) ⟨⟨_, (by kernel_rfl), ldN (T := 53) (i := 0) (m := 16) (l := (Value.cells (gotV 2 GOp.zero (numR r18) (-1) 0 none 0 0 false)).toList) hb134⟩, trivial⟩ (k := ?_)
              exact ⟨(⟨⟨2, (⟨0, ⟨0, 0, 0, 0, 0⟩, false, 0, 0, 0⟩ : GOp), (numR r18), (-1), 0, []⟩, none, 0⟩ : GCmd), false, rfl, OwAt.nil, (by simp [blk]), (q_two_no (G := (gWrk 2)) (kw := kRelease) (hr36.trans (congrArg some ph128)) (qb_wrk (.inl ⟨rfl, rfl⟩)) (by omega)), (by simp), K⟩
            · have ph128 := of_decide_eq_false h128
              refine WC.seq ?_
              refine WC.region ?_
              refine WL.opE (d := 122) (.bool (ByteArray.toList ⟨(r35).toArray⟩ == ByteArray.toList ⟨([97, 115, 107]).toArray⟩)) (v := .bool (decide (r35 = [97, 115, 107]))) (str_eql _ _) (k := ?_)
              refine WL.op (d := 121) (.bool (decide (r35 = [97, 115, 107]))) (k := ?_)
              refine WL.nil ?_
              refine WX.seqN ?_
              refine WC.cond (b := decide (r35 = [97, 115, 107])) (ht := fun h136 => ?_) (hf := fun h136 => ?_)
              · have ph136 := of_decide_eq_true h136
                refine WC.seq ?_
                refine WC.mixed (fun _ => False) 9 (k := fun w137 k138 => ?_)
                replace hb4 := k138.heap hb4 id
                replace hb27 := k138.heap hb27 id
                replace K := K.trans (k138.any _)
                have KC := Keeps.refl (fun _ => False) w137
                have bh139 := hb4
                have bh140 := hb27
                have Kb := K
                refine WA.quiet 0 (d := 123) (.slice (some ⟨b7, 0, none⟩) 2 2) KC (hi := rfl) (k := ?_)
                refine WA.quiet 1 (d := 124) (.pointer (some ⟨b7, 0, none⟩)) KC (hi := rfl) (k := ?_)
                refine WA.quietR 2 (d := 125) (.int .i64 (numR r18)) KC (exec_load (fun w_ k_ => ld1 (T := 2) (i := 0) (k_.heap bh140 id))) (hi := rfl) (k := ?_)
                refine WA.quiet 3 (d := 126) (.slice (some ⟨b7, 0, none⟩) 2 2) KC (hi := rfl) (k := ?_)
                refine WA.quiet 4 (d := 127) (.pointer (some ⟨b7, 1, none⟩)) KC (hi := rfl) (k := ?_)
                refine WA.quietR 5 (d := 128) (.int .i64 (-1)) KC (exec_load (fun w_ k_ => ld1 (T := 2) (i := 1) (k_.heap bh140 id))) (hi := rfl) (k := ?_)
                refine WA.quiet 6 (d := 129) (.agg #[.int .i64 3, .int .i64 0, .int .i64 0, .int .i64 0, .int .i64 0, .int .i64 0, .int .i64 0, .bool false, .int .i64 0, .int .i64 0, .int .i64 0, .int .i64 (numR r18), .int .i64 (-1), .int .i64 0, .slice none 0 0]) KC (hi := rfl) (k := ?_)
                refine WA.quiet 7 (d := 130) (.bool false) KC (hi := rfl) (k := ?_)
                refine WA.quiet 8 (d := 131) (gotV 3 GOp.zero (numR r18) (-1) 0 none 0 0 false) KC (hi := rfl) (k := ?_)
                refine WA.step 9 (hi := rfl) (k := ?_)
                refine WL.store (v := gotV 3 GOp.zero (numR r18) (-1) 0 none 0 0 false) (i := 0) (cs' := (Value.cells (gotV 3 GOp.zero (numR r18) (-1) 0 none 0 0 false))) hb4 (k := fun w141 hb142 k143 => ?_)
                replace hb27 := k143.heap hb27 (Ne.symm n13)
                replace K := K.trans' k143 (fun i hi e => absurd (e ▸ hi) (Nat.not_lt.2 z6))
                clear hb4
                refine WL.nil ?_
                refine WX.nxtL ?_
                refine WA.done (k := ?_)
                clear KC
                refine WX.seqN ?_
                refine WC.ret ?_
                refine WX.blockR ?_
                refine WX.seqR ?_
                refine WX.ret (rs := [.cell 2 53]) [gotV 3 GOp.zero (numR r18) (-1) 0 none 0 0 false] (gotV 3 GOp.zero (numR r18) (-1) 0 none 0 0 false) ⟨⟨_, (by kernel_rfl), ldN (T := 53) (i := 0) (m := 16) (l := (Value.cells (gotV 3 GOp.zero (numR r18) (-1) 0 none 0 0 false)).toList) hb142⟩, trivial⟩ (k := ?_)
                exact ⟨(⟨⟨3, (⟨0, ⟨0, 0, 0, 0, 0⟩, false, 0, 0, 0⟩ : GOp), (numR r18), (-1), 0, []⟩, none, 0⟩ : GCmd), false, rfl, OwAt.nil, (by simp [blk]), (q_two_no (G := (gWrk 3)) (kw := kAsk) (hr36.trans (congrArg some ph136)) (qb_wrk (.inr ⟨rfl, rfl⟩)) (by omega)), (by simp), K⟩
              · have ph136 := of_decide_eq_false h136
                refine WC.seq ?_
                refine WC.region ?_
                refine WL.opE (d := 133) (.bool (ByteArray.toList ⟨(r35).toArray⟩ == ByteArray.toList ⟨([116, 105, 99, 107]).toArray⟩)) (v := .bool (decide (r35 = [116, 105, 99, 107]))) (str_eql _ _) (k := ?_)
                refine WL.op (d := 132) (.bool (decide (r35 = [116, 105, 99, 107]))) (k := ?_)
                refine WL.nil ?_
                refine WX.seqN ?_
                refine WC.cond (b := decide (r35 = [116, 105, 99, 107])) (ht := fun h144 => ?_) (hf := fun h144 => ?_)
                · have ph144 := of_decide_eq_true h144
                  refine WC.seq ?_
                  refine WC.region ?_
                  refine WL.op (d := 134) (.slice (some ⟨b7, 0, none⟩) 2 2) (k := ?_)
                  refine WL.op (d := 135) (.pointer (some ⟨b7, 0, none⟩)) (k := ?_)
                  refine WL.load (v := .int .i64 (numR r18)) (ld1 (T := 2) (i := 0) hb27) (k := ?_)
                  refine WL.op (d := 137) (.agg #[.int .i64 4, .int .i64 0, .int .i64 0, .int .i64 0, .int .i64 0, .int .i64 0, .int .i64 0, .bool false, .int .i64 0, .int .i64 0, .int .i64 0, .int .i64 0, .int .i64 0, .int .i64 (numR r18), .slice none 0 0]) (k := ?_)
                  refine WL.op (d := 138) (.bool (decide ((numR r18) ≥ 0))) (k := ?_)
                  refine WL.op (d := 139) (gotV 4 GOp.zero 0 0 (numR r18) none 0 0 (decide ((numR r18) ≥ 0))) (k := ?_)
                  refine WL.store (v := gotV 4 GOp.zero 0 0 (numR r18) none 0 0 (decide ((numR r18) ≥ 0))) (i := 0) (cs' := (Value.cells (gotV 4 GOp.zero 0 0 (numR r18) none 0 0 (decide ((numR r18) ≥ 0))))) hb4 (k := fun w145 hb146 k147 => ?_)
                  replace hb27 := k147.heap hb27 (Ne.symm n13)
                  replace K := K.trans' k147 (fun i hi e => absurd (e ▸ hi) (Nat.not_lt.2 z6))
                  clear hb4
                  refine WL.nil ?_
                  refine WX.seqN ?_
                  refine WC.ret ?_
                  refine WX.blockR ?_
                  refine WX.seqR ?_
                  refine WX.ret (rs := [.cell 2 53]) [gotV 4 GOp.zero 0 0 (numR r18) none 0 0 (decide ((numR r18) ≥ 0))] (gotV 4 GOp.zero 0 0 (numR r18) none 0 0 (decide ((numR r18) ≥ 0))) ⟨⟨_, (by kernel_rfl), ldN (T := 53) (i := 0) (m := 16) (l := (Value.cells (gotV 4 GOp.zero 0 0 (numR r18) none 0 0 (decide ((numR r18) ≥ 0)))).toList) hb146⟩, trivial⟩ (k := ?_)
                  exact ⟨(⟨⟨4, (⟨0, ⟨0, 0, 0, 0, 0⟩, false, 0, 0, 0⟩ : GOp), 0, 0, (numR r18), []⟩, none, 0⟩ : GCmd), decide ((numR r18) ≥ 0), rfl, OwAt.nil, (by simp [blk]), (q_one (G := gTick) (kw := kTick) (hr36.trans (congrArg some ph144)) qb_tick (by omega) hr19), (by simp), K⟩
                · have ph144 := of_decide_eq_false h144
                  refine WC.seq ?_
                  refine WC.region ?_
                  refine WL.opE (d := 141) (.bool (ByteArray.toList ⟨(r35).toArray⟩ == ByteArray.toList ⟨([102, 97, 105, 108]).toArray⟩)) (v := .bool (decide (r35 = [102, 97, 105, 108]))) (str_eql _ _) (k := ?_)
                  refine WL.op (d := 140) (.bool (decide (r35 = [102, 97, 105, 108]))) (k := ?_)
                  refine WL.nil ?_
                  refine WX.seqN ?_
                  refine WC.cond (b := decide (r35 = [102, 97, 105, 108])) (ht := fun h148 => ?_) (hf := fun h148 => ?_)
                  · have ph148 := of_decide_eq_true h148
                    refine WC.seq ?_
                    refine WC.region ?_
                    refine WL.op (d := 142) (.slice (some ⟨b7, 0, none⟩) 2 2) (k := ?_)
                    refine WL.op (d := 143) (.pointer (some ⟨b7, 0, none⟩)) (k := ?_)
                    refine WL.load (v := .int .i64 (numR r18)) (ld1 (T := 2) (i := 0) hb27) (k := ?_)
                    refine WL.op (d := 145) (.agg #[.int .i64 7, .int .i64 0, .int .i64 0, .int .i64 0, .int .i64 0, .int .i64 0, .int .i64 0, .bool false, .int .i64 0, .int .i64 0, .int .i64 0, .int .i64 0, .int .i64 0, .int .i64 (numR r18), .slice none 0 0]) (k := ?_)
                    refine WL.op (d := 146) (.bool (decide ((numR r18) ≥ 0))) (k := ?_)
                    refine WL.op (d := 147) (gotV 7 GOp.zero 0 0 (numR r18) none 0 0 (decide ((numR r18) ≥ 0))) (k := ?_)
                    refine WL.store (v := gotV 7 GOp.zero 0 0 (numR r18) none 0 0 (decide ((numR r18) ≥ 0))) (i := 0) (cs' := (Value.cells (gotV 7 GOp.zero 0 0 (numR r18) none 0 0 (decide ((numR r18) ≥ 0))))) hb4 (k := fun w149 hb150 k151 => ?_)
                    replace hb27 := k151.heap hb27 (Ne.symm n13)
                    replace K := K.trans' k151 (fun i hi e => absurd (e ▸ hi) (Nat.not_lt.2 z6))
                    clear hb4
                    refine WL.nil ?_
                    refine WX.seqN ?_
                    refine WC.ret ?_
                    refine WX.blockR ?_
                    refine WX.seqR ?_
                    refine WX.ret (rs := [.cell 2 53]) [gotV 7 GOp.zero 0 0 (numR r18) none 0 0 (decide ((numR r18) ≥ 0))] (gotV 7 GOp.zero 0 0 (numR r18) none 0 0 (decide ((numR r18) ≥ 0))) ⟨⟨_, (by kernel_rfl), ldN (T := 53) (i := 0) (m := 16) (l := (Value.cells (gotV 7 GOp.zero 0 0 (numR r18) none 0 0 (decide ((numR r18) ≥ 0)))).toList) hb150⟩, trivial⟩ (k := ?_)
                    exact ⟨(⟨⟨7, (⟨0, ⟨0, 0, 0, 0, 0⟩, false, 0, 0, 0⟩ : GOp), 0, 0, (numR r18), []⟩, none, 0⟩ : GCmd), decide ((numR r18) ≥ 0), rfl, OwAt.nil, (by simp [blk]), (q_one (G := gFail) (kw := kFail) (hr36.trans (congrArg some ph148)) qb_fail (by omega) hr19), (by simp), K⟩
                  · have ph148 := of_decide_eq_false h148
                    refine WC.seq ?_
                    refine WC.region ?_
                    refine WL.opE (d := 149) (.bool (ByteArray.toList ⟨(r35).toArray⟩ == ByteArray.toList ⟨([113, 117, 101, 114, 121]).toArray⟩)) (v := .bool (decide (r35 = [113, 117, 101, 114, 121]))) (str_eql _ _) (k := ?_)
                    refine WL.op (d := 148) (.bool (decide (r35 = [113, 117, 101, 114, 121]))) (k := ?_)
                    refine WL.nil ?_
                    refine WX.seqN ?_
                    refine WC.cond (b := decide (r35 = [113, 117, 101, 114, 121])) (ht := fun h152 => ?_) (hf := fun h152 => ?_)
                    · have ph152 := of_decide_eq_true h152
                      refine WC.seq ?_
                      refine WC.region ?_
                      refine WL.op (d := 150) (.slice (some ⟨b7, 0, none⟩) 2 2) (k := ?_)
                      refine WL.op (d := 151) (.pointer (some ⟨b7, 0, none⟩)) (k := ?_)
                      refine WL.load (v := .int .i64 (numR r18)) (ld1 (T := 2) (i := 0) hb27) (k := ?_)
                      refine WL.op (d := 153) (.agg #[.int .i64 5, .int .i64 0, .int .i64 0, .int .i64 0, .int .i64 0, .int .i64 0, .int .i64 0, .bool false, .int .i64 0, .int .i64 0, .int .i64 0, .int .i64 (numR r18), .int .i64 0, .int .i64 0, .slice none 0 0]) (k := ?_)
                      refine WL.op (d := 154) (.bool (decide ((numR r18) ≥ 0))) (k := ?_)
                      refine WL.op (d := 155) (gotV 5 GOp.zero (numR r18) 0 0 none 0 0 (decide ((numR r18) ≥ 0))) (k := ?_)
                      refine WL.store (v := gotV 5 GOp.zero (numR r18) 0 0 none 0 0 (decide ((numR r18) ≥ 0))) (i := 0) (cs' := (Value.cells (gotV 5 GOp.zero (numR r18) 0 0 none 0 0 (decide ((numR r18) ≥ 0))))) hb4 (k := fun w153 hb154 k155 => ?_)
                      replace hb27 := k155.heap hb27 (Ne.symm n13)
                      replace K := K.trans' k155 (fun i hi e => absurd (e ▸ hi) (Nat.not_lt.2 z6))
                      clear hb4
                      refine WL.nil ?_
                      refine WX.seqN ?_
                      refine WC.ret ?_
                      refine WX.blockR ?_
                      refine WX.seqR ?_
                      refine WX.ret (rs := [.cell 2 53]) [gotV 5 GOp.zero (numR r18) 0 0 none 0 0 (decide ((numR r18) ≥ 0))] (gotV 5 GOp.zero (numR r18) 0 0 none 0 0 (decide ((numR r18) ≥ 0))) ⟨⟨_, (by kernel_rfl), ldN (T := 53) (i := 0) (m := 16) (l := (Value.cells (gotV 5 GOp.zero (numR r18) 0 0 none 0 0 (decide ((numR r18) ≥ 0)))).toList) hb154⟩, trivial⟩ (k := ?_)
                      exact ⟨(⟨⟨5, (⟨0, ⟨0, 0, 0, 0, 0⟩, false, 0, 0, 0⟩ : GOp), (numR r18), 0, 0, []⟩, none, 0⟩ : GCmd), decide ((numR r18) ≥ 0), rfl, OwAt.nil, (by simp [blk]), (q_one (G := gQuery) (kw := kQuery) (hr36.trans (congrArg some ph152)) qb_query (by omega) hr19), (by simp), K⟩
                    · have ph152 := of_decide_eq_false h152
                      refine WC.seq ?_
                      refine WC.region ?_
                      refine WL.opE (d := 157) (.bool (ByteArray.toList ⟨(r35).toArray⟩ == ByteArray.toList ⟨([115, 110, 97, 112, 115, 104, 111, 116]).toArray⟩)) (v := .bool (decide (r35 = [115, 110, 97, 112, 115, 104, 111, 116]))) (str_eql _ _) (k := ?_)
                      refine WL.op (d := 156) (.bool (decide (r35 = [115, 110, 97, 112, 115, 104, 111, 116]))) (k := ?_)
                      refine WL.nil ?_
                      refine WX.seqN ?_
                      refine WC.cond (b := decide (r35 = [115, 110, 97, 112, 115, 104, 111, 116])) (ht := fun h156 => ?_) (hf := fun h156 => ?_)
                      · have ph156 := of_decide_eq_true h156
                        refine WC.seq ?_
                        refine WC.region ?_
                        refine WL.op (d := 158) (.agg #[.int .i64 6, .int .i64 0, .int .i64 0, .int .i64 0, .int .i64 0, .int .i64 0, .int .i64 0, .bool false, .int .i64 0, .int .i64 0, .int .i64 0, .int .i64 0, .int .i64 0, .int .i64 0, .slice none 0 0]) (k := ?_)
                        refine WL.op (d := 159) (.slice A ws.length cp) (k := ?_)
                        refine WL.op (d := 160) (.int .i64 (ws.length : Int)) (k := ?_)
                        refine WL.op (d := 161) (.bool ((ws.length : Int) == 1)) (k := ?_)
                        refine WL.op (d := 162) (gotV 6 GOp.zero 0 0 0 none 0 0 ((ws.length : Int) == 1)) (k := ?_)
                        refine WL.store (v := gotV 6 GOp.zero 0 0 0 none 0 0 ((ws.length : Int) == 1)) (i := 0) (cs' := (Value.cells (gotV 6 GOp.zero 0 0 0 none 0 0 ((ws.length : Int) == 1)))) hb4 (k := fun w157 hb158 k159 => ?_)
                        replace hb27 := k159.heap hb27 (Ne.symm n13)
                        replace K := K.trans' k159 (fun i hi e => absurd (e ▸ hi) (Nat.not_lt.2 z6))
                        clear hb4
                        refine WL.nil ?_
                        refine WX.seqN ?_
                        refine WC.ret ?_
                        refine WX.blockR ?_
                        refine WX.seqR ?_
                        refine WX.ret (rs := [.cell 2 53]) [gotV 6 GOp.zero 0 0 0 none 0 0 ((ws.length : Int) == 1)] (gotV 6 GOp.zero 0 0 0 none 0 0 ((ws.length : Int) == 1)) ⟨⟨_, (by kernel_rfl), ldN (T := 53) (i := 0) (m := 16) (l := (Value.cells (gotV 6 GOp.zero 0 0 0 none 0 0 ((ws.length : Int) == 1))).toList) hb158⟩, trivial⟩ (k := ?_)
                        exact ⟨(⟨⟨6, (⟨0, ⟨0, 0, 0, 0, 0⟩, false, 0, 0, 0⟩ : GOp), 0, 0, 0, []⟩, none, 0⟩ : GCmd), (ws.length : Int) == 1, rfl, OwAt.nil, (by simp [blk]), (q_nil (kw := kSnapshot) (hr36.trans (congrArg some ph156)) qb_snap), (by simp), K⟩
                      · have ph156 := of_decide_eq_false h156
                        refine WC.seq ?_
                        refine WC.region ?_
                        refine WL.opE (d := 164) (.bool (ByteArray.toList ⟨(r35).toArray⟩ == ByteArray.toList ⟨([115, 116, 97, 114, 116]).toArray⟩)) (v := .bool (decide (r35 = [115, 116, 97, 114, 116]))) (str_eql _ _) (k := ?_)
                        refine WL.op (d := 163) (.bool (decide (r35 = [115, 116, 97, 114, 116]))) (k := ?_)
                        refine WL.nil ?_
                        refine WX.seqN ?_
                        refine WC.cond (b := decide (r35 = [115, 116, 97, 114, 116])) (ht := fun h160 => ?_) (hf := fun h160 => ?_)
                        · have ph160 := of_decide_eq_true h160
                          refine WC.seq ?_
                          refine WC.region ?_
                          refine WL.op (d := 165) (.agg #[.int .i64 9, .int .i64 0, .int .i64 0, .int .i64 0, .int .i64 0, .int .i64 0, .int .i64 0, .bool false, .int .i64 0, .int .i64 0, .int .i64 0, .int .i64 0, .int .i64 0, .int .i64 0, .slice none 0 0]) (k := ?_)
                          refine WL.op (d := 166) (.slice A ws.length cp) (k := ?_)
                          refine WL.op (d := 167) (.int .i64 (ws.length : Int)) (k := ?_)
                          refine WL.op (d := 168) (.bool ((ws.length : Int) == 1)) (k := ?_)
                          refine WL.op (d := 169) (gotV 9 GOp.zero 0 0 0 none 0 0 ((ws.length : Int) == 1)) (k := ?_)
                          refine WL.store (v := gotV 9 GOp.zero 0 0 0 none 0 0 ((ws.length : Int) == 1)) (i := 0) (cs' := (Value.cells (gotV 9 GOp.zero 0 0 0 none 0 0 ((ws.length : Int) == 1)))) hb4 (k := fun w161 hb162 k163 => ?_)
                          replace hb27 := k163.heap hb27 (Ne.symm n13)
                          replace K := K.trans' k163 (fun i hi e => absurd (e ▸ hi) (Nat.not_lt.2 z6))
                          clear hb4
                          refine WL.nil ?_
                          refine WX.seqN ?_
                          refine WC.ret ?_
                          refine WX.blockR ?_
                          refine WX.seqR ?_
                          refine WX.ret (rs := [.cell 2 53]) [gotV 9 GOp.zero 0 0 0 none 0 0 ((ws.length : Int) == 1)] (gotV 9 GOp.zero 0 0 0 none 0 0 ((ws.length : Int) == 1)) ⟨⟨_, (by kernel_rfl), ldN (T := 53) (i := 0) (m := 16) (l := (Value.cells (gotV 9 GOp.zero 0 0 0 none 0 0 ((ws.length : Int) == 1))).toList) hb162⟩, trivial⟩ (k := ?_)
                          exact ⟨(⟨⟨9, (⟨0, ⟨0, 0, 0, 0, 0⟩, false, 0, 0, 0⟩ : GOp), 0, 0, 0, []⟩, none, 0⟩ : GCmd), (ws.length : Int) == 1, rfl, OwAt.nil, (by simp [blk]), (q_nil (kw := kStart) (hr36.trans (congrArg some ph160)) qb_start), (by simp), K⟩
                        · have ph160 := of_decide_eq_false h160
                          refine WC.seq ?_
                          refine WC.region ?_
                          refine WL.opE (d := 171) (.bool (ByteArray.toList ⟨(r35).toArray⟩ == ByteArray.toList ⟨([99, 114, 97, 115, 104]).toArray⟩)) (v := .bool (decide (r35 = [99, 114, 97, 115, 104]))) (str_eql _ _) (k := ?_)
                          refine WL.op (d := 170) (.bool (decide (r35 = [99, 114, 97, 115, 104]))) (k := ?_)
                          refine WL.nil ?_
                          refine WX.seqN ?_
                          refine WC.cond (b := decide (r35 = [99, 114, 97, 115, 104])) (ht := fun h164 => ?_) (hf := fun h164 => ?_)
                          · have ph164 := of_decide_eq_true h164
                            refine WC.seq ?_
                            refine WC.region ?_
                            refine WL.op (d := 172) (.slice A ws.length cp) (k := ?_)
                            have hs165 := SlAt.cutD (a := 1) (c := cp) hA (by omega) (by omega)
                            refine WL.cut (d := 173) (vx := .slice A ws.length cp) (lo' := (some (.int .i64 1))) (hi' := none) (mx' := none) (v := .slice (cutA A cp 1 1) ((List.drop 1 ws).length) (cp - 1)) (run_cutSl (a := 1) (b := ws.length) (c := cp) (m := 1) (E := 9) (by kernel_rfl) (by kernel_rfl) (.inl ⟨rfl, rfl⟩) (.inl ⟨rfl, rfl, rfl⟩) (.inr ⟨_, _, rfl, by omega⟩) (by omega) (by omega) rfl (by simp <;> omega) (by omega)) (k := ?_)
                            refine WL.callG (d := 174) (f := 50) (args := #[.slice (cutA A cp 1 1) ((List.drop 1 ws).length) (cp - 1)]) (u25fates_c (cp := (cp - 1)) (hs165.adds K) (by simp; omega) (fun y hy => hx y (List.mem_of_mem_drop hy))) (k := fun e_ w166 h_ => ?_)
                            obtain ⟨g167, is168, rfl, ho169, ol170, hq171, hl172, k173⟩ := h_
                            refine ⟨_, rfl, ?_⟩
                            have ol174 := fun i h => Nat.le_trans K.size (ol170 i h)
                            replace hb4 := k173.heap hb4 id
                            replace hb27 := k173.heap hb27 id
                            replace K := K.trans (k173.any _)
                            clear ol170
                            refine WL.store (v := gotV g167.p.kind g167.p.op g167.p.id g167.p.work g167.p.n g167.A g167.p.fs.length g167.cap is168) (i := 0) (cs' := (Value.cells (gotV g167.p.kind g167.p.op g167.p.id g167.p.work g167.p.n g167.A g167.p.fs.length g167.cap is168))) hb4 (k := fun w175 hb176 k177 => ?_)
                            replace hb27 := k177.heap hb27 (Ne.symm n13)
                            replace ho169 := ho169.keeps k177 (fun i hi e => (ho169.offT hb4 (by decide)) (e ▸ hi))
                            replace K := K.trans' k177 (fun i hi e => absurd (e ▸ hi) (Nat.not_lt.2 z6))
                            clear hb4
                            refine WL.nil ?_
                            refine WX.seqN ?_
                            refine WC.ret ?_
                            refine WX.blockR ?_
                            refine WX.seqR ?_
                            refine WX.ret (rs := [.cell 2 53]) [gotV g167.p.kind g167.p.op g167.p.id g167.p.work g167.p.n g167.A g167.p.fs.length g167.cap is168] (gotV g167.p.kind g167.p.op g167.p.id g167.p.work g167.p.n g167.A g167.p.fs.length g167.cap is168) ⟨⟨_, (by kernel_rfl), ldN (T := 53) (i := 0) (m := 16) (l := (Value.cells (gotV g167.p.kind g167.p.op g167.p.id g167.p.work g167.p.n g167.A g167.p.fs.length g167.cap is168)).toList) hb176⟩, trivial⟩ (k := ?_)
                            exact ⟨g167, is168, rfl, ho169, ol174, (by rw [ws_cons (hr36.trans (congrArg some ph164) : ws[0]? = some kCrash)]; exact hq171), (by simp only [List.length_cons, List.length_drop] at hl172; omega), K⟩
                          · have ph164 := of_decide_eq_false h164
                            refine WC.skip ?_
                            refine WX.blockN ?_
                            refine WX.seqN ?_
                            refine WC.seq ?_
                            refine WC.region ?_
                            refine WL.op (d := 175) (gotV 0 GOp.zero 0 0 0 none 0 0 false) (k := ?_)
                            refine WL.store (v := gotV 0 GOp.zero 0 0 0 none 0 0 false) (i := 0) (cs' := (Value.cells (gotV 0 GOp.zero 0 0 0 none 0 0 false))) hb4 (k := fun w178 hb179 k180 => ?_)
                            replace hb27 := k180.heap hb27 (Ne.symm n13)
                            replace K := K.trans' k180 (fun i hi e => absurd (e ▸ hi) (Nat.not_lt.2 z6))
                            clear hb4
                            refine WL.nil ?_
                            refine WX.seqN ?_
                            refine WC.ret ?_
                            refine WX.ret (rs := [.cell 2 53]) [gotV 0 GOp.zero 0 0 0 none 0 0 false] (gotV 0 GOp.zero 0 0 0 none 0 0 false) ⟨⟨_, (by kernel_rfl), ldN (T := 53) (i := 0) (m := 16) (l := (Value.cells (gotV 0 GOp.zero 0 0 0 none 0 0 false)).toList) hb179⟩, trivial⟩ (k := ?_)
                            exact ⟨(⟨⟨0, (⟨0, ⟨0, 0, 0, 0, 0⟩, false, 0, 0, 0⟩ : GOp), 0, 0, 0, []⟩, none, 0⟩ : GCmd), false, rfl, OwAt.nil, (by simp [blk]), (q_other hr36 (fun k_ => by rcases k_ with k_ | k_ | k_ | k_ | k_ | k_ | k_ | k_ <;> first | exact ph128 k_ | exact ph136 k_ | exact ph144 k_ | exact ph148 k_ | exact ph152 k_ | exact ph156 k_ | exact ph160 k_ | exact ph164 k_) (fun k_ => k_.elim ph40 ph76) ph112 ph116 ph124), (by simp), K⟩
end Go.Proofs.YtoeinhlmkpgjhaaGreatDoor
namespace Go.Proofs.YtoeinhlmkpgjhaaGreatDoor
open Go.RowKit
set_option linter.unusedVariables false
set_option linter.unusedSimpArgs false
set_option maxRecDepth 100000 in
set_option maxHeartbeats 4000000 in
theorem u25command_3 {A : Option Addr} {cp : Nat} {ws : Words} {w : World} (hA : SlAt strC 1 9 A ws w) (hn : ws.length ≤ 1000000) (hx : ∀ x ∈ ws, x.length ≤ 1000000) (h0 : 0 < ws.length) (hc1 : ws.length ≤ cp) (hc2 : cp ≤ 9223372036854775807) (hk : 3 ≤ ws.length) : Calls Tryz.prog 25 #[.slice A ws.length cp] w (GotR ws w) := by
  have K : Keeps (fun _ => False) w w := Keeps.refl _ w
  refine Calls.start Tryz.func25 rfl (by kernel_rfl) ?_
  refine WC.seq ?_
  refine WC.region ?_
  refine WL.new (d := 2) (T := 53) (Value.cells (gotV 0 GOp.zero 0 0 0 none 0 0 false)) (k := fun b1 w2 g3 hb4 k5 => ?_)
  have z6 := Nat.le_trans K.size g3
  replace K := K.trans (k5.any _)
  refine WL.nil ?_
  refine WX.seqN ?_
  refine WC.seq ?_
  refine WC.region ?_
  refine WL.newF (d := 9) (T := 2) #[.int .i64 (-1), .int .i64 (-1)] (fun b => .slice (some ⟨b, 0, none⟩) 2 2) (k := fun b7 w8 g9 hb10 k11 => ?_)
  have z12 := Nat.le_trans K.size g9
  have n13 : b1 ≠ b7 := Nat.ne_of_lt (Nat.lt_of_lt_of_le (lt_of_heap hb4) g9)
  replace hb4 := k11.heap hb4 id
  replace K := K.trans (k11.any _)
  refine WL.op (d := 3) (.slice (some ⟨b7, 0, none⟩) 2 2) (k := ?_)
  refine WL.nil ?_
  refine WX.seqN ?_
  refine WC.seq ?_
  refine WC.seq ?_
  have h14 : decide ((1 : Int) < (ws.length : Int)) = true := decide_eq_true (by omega)
  have h15 : decide ((2 : Int) < (ws.length : Int)) = true := decide_eq_true (by omega)
  refine WC.region ?_
  refine WL.op (d := 4) (.int .i64 0) (k := ?_)
  refine WL.nil ?_
  refine WX.seqN ?_
  refine WC.block ?_
  refine WC.rounds 3 ?_
  refine WC.seq ?_
  refine WC.seq ?_
  refine WC.region ?_
  refine WL.op (d := 10) (.int .i64 0) (k := ?_)
  refine WL.op (d := 11) (.bool true) (k := ?_)
  refine WL.op (d := 12) (.bool true) (k := ?_)
  refine WL.op (d := 13) (.int .i64 0) (k := ?_)
  refine WL.op (d := 14) (.int .i64 1) (k := ?_)
  refine WL.op (d := 15) (.slice A ws.length cp) (k := ?_)
  refine WL.op (d := 16) (.int .i64 (ws.length : Int)) (k := ?_)
  refine WL.op (d := 17) (.bool (decide ((1 : Int) < (ws.length : Int)))) (k := ?_)
  refine WL.op (d := 18) (.bool (decide ((1 : Int) < (ws.length : Int)))) (k := ?_)
  refine WL.nil ?_
  refine WX.seqN ?_
  refine WC.rw (t := 18) (v := .bool true) (congrArg Value.bool h14) (k := ?_)
  refine WC.condT (k := ?_)
  refine WC.skip ?_
  refine WX.seqN ?_
  refine WC.seq ?_
  refine WC.block ?_
  refine WC.region ?_
  refine WL.op (d := 21) (.slice (some ⟨b7, 0, none⟩) 2 2) (k := ?_)
  refine WL.op (d := 22) (.int .i64 0) (k := ?_)
  refine WL.op (d := 23) (.slice A ws.length cp) (k := ?_)
  refine WL.op (d := 24) (.int .i64 0) (k := ?_)
  refine WL.op (d := 25) (.int .i64 1) (k := ?_)
  obtain ⟨b16, o17, r18, hr19, hA20, he21⟩ := SlAt.at hA (i := 1) (by omega) (by omega)
  refine WL.rw (t := 23) (v := .slice (some ⟨b16, o17, none⟩) ws.length cp) (congrArg (fun a => Value.slice a ws.length cp) hA20) (k := ?_)
  have wx22 := hx _ (List.mem_of_getElem? hr19)
  refine WL.idx (T := 43) (E := 9) (m := 1) (b := b16) (o := o17) (len := ws.length) (cap := cp) (i := 1) (kk := .i64) (d := 26) (by omega) (by omega) (k := ?_)
  refine WL.rw (t := 23) (v := .slice A ws.length cp) (congrArg (fun a => Value.slice a ws.length cp) (Eq.symm hA20)) (k := ?_)
  refine WL.load (v := .string ⟨(r18).toArray⟩) ((he21.adds K).ld0 (T := 9)) (k := ?_)
  refine WL.callG (d := 28) (f := 31) (args := #[.string ⟨(r18).toArray⟩]) (u25number_c (l := r18) (by first | omega | (simp; omega)) w8) (k := fun e_ w24 h_ => ⟨.int .i64 (numR r18), h_.1, ?_⟩)
  have k25 := h_.2; clear h_
  replace hb4 := k25.heap hb4 id
  replace hb10 := k25.heap hb10 id
  replace K := K.trans (k25.any _)
  have nr23 := numR_rng r18
  refine WL.op (d := 29) (.pointer (some ⟨b7, 0, none⟩)) (k := ?_)
  refine WL.store (v := .int .i64 (numR r18)) (i := 0) (cs' := #[.int .i64 (numR r18), .int .i64 (-1)]) hb10 (k := fun w26 hb27 k28 => ?_)
  replace hb4 := k28.heap hb4 n13
  replace K := K.trans' k28 (fun i hi e => absurd (e ▸ hi) (Nat.not_lt.2 z12))
  clear hb10
  refine WL.nil ?_
  refine WX.blockN ?_
  refine WX.seqN ?_
  refine WC.region ?_
  refine WL.op (d := 19) (.int .i64 0) (k := ?_)
  refine WL.op (d := 20) (.int .i64 1) (k := ?_)
  refine WL.op (d := 4) (.int .i64 1) (k := ?_)
  refine WL.nil ?_
  refine WX.more ?_
  refine WC.seq ?_
  refine WC.seq ?_
  refine WC.region ?_
  refine WL.op (d := 10) (.int .i64 1) (k := ?_)
  refine WL.op (d := 11) (.bool true) (k := ?_)
  refine WL.op (d := 12) (.bool true) (k := ?_)
  refine WL.op (d := 13) (.int .i64 1) (k := ?_)
  refine WL.op (d := 14) (.int .i64 2) (k := ?_)
  refine WL.op (d := 15) (.slice A ws.length cp) (k := ?_)
  refine WL.op (d := 16) (.int .i64 (ws.length : Int)) (k := ?_)
  refine WL.op (d := 17) (.bool (decide ((2 : Int) < (ws.length : Int)))) (k := ?_)
  refine WL.op (d := 18) (.bool (decide ((2 : Int) < (ws.length : Int)))) (k := ?_)
  refine WL.nil ?_
  refine WX.seqN ?_
  refine WC.rw (t := 18) (v := .bool true) (congrArg Value.bool h15) (k := ?_)
  refine WC.condT (k := ?_)
  refine WC.skip ?_
  refine WX.seqN ?_
  refine WC.seq ?_
  refine WC.block ?_
  refine WC.region ?_
  refine WL.op (d := 21) (.slice (some ⟨b7, 0, none⟩) 2 2) (k := ?_)
  refine WL.op (d := 22) (.int .i64 1) (k := ?_)
  refine WL.op (d := 23) (.slice A ws.length cp) (k := ?_)
  refine WL.op (d := 24) (.int .i64 1) (k := ?_)
  refine WL.op (d := 25) (.int .i64 2) (k := ?_)
  obtain ⟨b29, o30, r31, hr32, hA33, he34⟩ := SlAt.at hA (i := 2) (by omega) (by omega)
  refine WL.rw (t := 23) (v := .slice (some ⟨b29, o30, none⟩) ws.length cp) (congrArg (fun a => Value.slice a ws.length cp) hA33) (k := ?_)
  have wx35 := hx _ (List.mem_of_getElem? hr32)
  refine WL.idx (T := 43) (E := 9) (m := 1) (b := b29) (o := o30) (len := ws.length) (cap := cp) (i := 2) (kk := .i64) (d := 26) (by omega) (by omega) (k := ?_)
  refine WL.rw (t := 23) (v := .slice A ws.length cp) (congrArg (fun a => Value.slice a ws.length cp) (Eq.symm hA33)) (k := ?_)
  refine WL.load (v := .string ⟨(r31).toArray⟩) ((he34.adds K).ld0 (T := 9)) (k := ?_)
  refine WL.callG (d := 28) (f := 31) (args := #[.string ⟨(r31).toArray⟩]) (u25number_c (l := r31) (by first | omega | (simp; omega)) w26) (k := fun e_ w37 h_ => ⟨.int .i64 (numR r31), h_.1, ?_⟩)
  have k38 := h_.2; clear h_
  replace hb4 := k38.heap hb4 id
  replace hb27 := k38.heap hb27 id
  replace K := K.trans (k38.any _)
  have nr36 := numR_rng r31
  refine WL.op (d := 29) (.pointer (some ⟨b7, 1, none⟩)) (k := ?_)
  refine WL.store (v := .int .i64 (numR r31)) (i := 1) (cs' := #[.int .i64 (numR r18), .int .i64 (numR r31)]) hb27 (k := fun w39 hb40 k41 => ?_)
  replace hb4 := k41.heap hb4 n13
  replace K := K.trans' k41 (fun i hi e => absurd (e ▸ hi) (Nat.not_lt.2 z12))
  clear hb27
  refine WL.nil ?_
  refine WX.blockN ?_
  refine WX.seqN ?_
  refine WC.region ?_
  refine WL.op (d := 19) (.int .i64 1) (k := ?_)
  refine WL.op (d := 20) (.int .i64 2) (k := ?_)
  refine WL.op (d := 4) (.int .i64 2) (k := ?_)
  refine WL.nil ?_
  refine WX.more ?_
  refine WC.seq ?_
  refine WC.seq ?_
  refine WC.region ?_
  refine WL.op (d := 10) (.int .i64 2) (k := ?_)
  refine WL.op (d := 11) (.bool false) (k := ?_)
  refine WL.op (d := 12) (.bool false) (k := ?_)
  refine WL.skip (d := 13) (k := ?_)
  refine WL.skip (d := 14) (k := ?_)
  refine WL.skip (d := 15) (k := ?_)
  refine WL.skip (d := 16) (k := ?_)
  refine WL.skip (d := 17) (k := ?_)
  refine WL.op (d := 18) (.bool false) (k := ?_)
  refine WL.nil ?_
  refine WX.seqN ?_
  refine WC.condF (k := ?_)
  refine WC.exit ?_
  refine WX.seqE ?_
  refine WX.seqE ?_
  refine WX.blockE ?_
  refine WX.seqN ?_
  refine WC.seq ?_
  have h42 : ((ws.length : Int) == 2) = false := beq_eq_false_iff_ne.2 (by omega)
  have h43 : ((ws.length : Int) != 2) = true := bne_iff_ne.2 (by omega)
  refine WC.region ?_
  refine WL.op (d := 30) (.slice A ws.length cp) (k := ?_)
  refine WL.op (d := 31) (.int .i64 (ws.length : Int)) (k := ?_)
  refine WL.op (d := 32) (.bool ((ws.length : Int) == 2)) (k := ?_)
  refine WL.op (d := 33) (.bool ((ws.length : Int) == 2)) (k := ?_)
  refine WL.rw (t := 33) (v := .bool false) (congrArg Value.bool h42) (k := ?_)
  refine WL.skip (d := 34) (k := ?_)
  refine WL.skip (d := 35) (k := ?_)
  refine WL.skip (d := 36) (k := ?_)
  refine WL.skip (d := 37) (k := ?_)
  refine WL.op (d := 38) (.bool false) (k := ?_)
  refine WL.op (d := 5) (.bool false) (k := ?_)
  refine WL.nil ?_
  refine WX.seqN ?_
  refine WC.seq ?_
  refine WC.region ?_
  refine WL.op (d := 39) (.slice A ws.length cp) (k := ?_)
  refine WL.op (d := 40) (.int .i64 (ws.length : Int)) (k := ?_)
  refine WL.op (d := 41) (.bool ((ws.length : Int) == 3)) (k := ?_)
  refine WL.op (d := 42) (.bool ((ws.length : Int) == 3)) (k := ?_)
  refine bsplit ((ws.length : Int) == 3) (fun h44 => ?_) (fun h44 => ?_)
  · have ph44 := eq_of_beq h44
    refine WL.rw (t := 42) (v := .bool true) (congrArg Value.bool h44) (k := ?_)
    refine WL.op (d := 43) (.slice (some ⟨b7, 0, none⟩) 2 2) (k := ?_)
    refine WL.op (d := 44) (.pointer (some ⟨b7, 0, none⟩)) (k := ?_)
    refine WL.load (v := .int .i64 (numR r18)) (ld1 (T := 2) (i := 0) hb40) (k := ?_)
    refine WL.op (d := 46) (.bool (decide ((numR r18) ≥ 0))) (k := ?_)
    refine WL.op (d := 47) (.bool (decide ((numR r18) ≥ 0))) (k := ?_)
    refine WL.op (d := 48) (.bool (decide ((numR r18) ≥ 0))) (k := ?_)
    refine bsplit (decide ((numR r18) ≥ 0)) (fun h45 => ?_) (fun h45 => ?_)
    · have ph45 := of_decide_eq_true h45
      refine WL.rw (t := 48) (v := .bool true) (congrArg Value.bool h45) (k := ?_)
      refine WL.op (d := 49) (.slice (some ⟨b7, 0, none⟩) 2 2) (k := ?_)
      refine WL.op (d := 50) (.pointer (some ⟨b7, 1, none⟩)) (k := ?_)
      refine WL.load (v := .int .i64 (numR r31)) (ld1 (T := 2) (i := 1) hb40) (k := ?_)
      refine WL.op (d := 52) (.bool (decide ((numR r31) ≥ 0))) (k := ?_)
      refine WL.op (d := 53) (.bool (decide ((numR r31) ≥ 0))) (k := ?_)
      refine WL.op (d := 6) (.bool (decide ((numR r31) ≥ 0))) (k := ?_)
      refine WL.nil ?_
      refine WX.seqN ?_
      refine WC.seq ?_
      refine WC.seq ?_
      refine WC.region ?_
      refine WL.op (d := 54) (.slice A ws.length cp) (k := ?_)
      obtain ⟨b46, o47, r48, hr49, hA50, he51⟩ := SlAt.at hA (i := 0) (by omega) (by omega)
      refine WL.rw (t := 54) (v := .slice (some ⟨b46, o47, none⟩) ws.length cp) (congrArg (fun a => Value.slice a ws.length cp) hA50) (k := ?_)
      have wx52 := hx _ (List.mem_of_getElem? hr49)
      refine WL.idx (T := 43) (E := 9) (m := 1) (b := b46) (o := o47) (len := ws.length) (cap := cp) (i := 0) (kk := .i64) (d := 55) (by omega) (by omega) (k := ?_)
      refine WL.rw (t := 54) (v := .slice A ws.length cp) (congrArg (fun a => Value.slice a ws.length cp) (Eq.symm hA50)) (k := ?_)
      refine WL.load (v := .string ⟨(r48).toArray⟩) ((he51.adds K).ld0 (T := 9)) (k := ?_)
      refine WL.nil ?_
      refine WX.seqN ?_
      refine WC.block ?_
      refine WC.seq ?_
      refine WC.seq ?_
      refine WC.region ?_
      refine WL.opE (d := 58) (.bool (ByteArray.toList ⟨(r48).toArray⟩ == ByteArray.toList ⟨([97, 100, 109, 105, 116]).toArray⟩)) (v := .bool (decide (r48 = [97, 100, 109, 105, 116]))) (str_eql _ _) (k := ?_)
      refine WL.op (d := 57) (.bool (decide (r48 = [97, 100, 109, 105, 116]))) (k := ?_)
      refine WL.nil ?_
      refine WX.seqN ?_
      refine WC.cond (b := decide (r48 = [97, 100, 109, 105, 116])) (ht := fun h53 => ?_) (hf := fun h53 => ?_)
      · have ph53 := of_decide_eq_true h53
        refine WC.skip ?_
        refine WX.seqN ?_
        refine WC.rw (t := 57) (v := .bool true) (congrArg Value.bool h53) (k := ?_)
        refine WC.condT (k := ?_)
        refine WC.seq ?_
        refine WC.seq ?_
        refine WC.region ?_
        refine WL.op (d := 60) (.slice A ws.length cp) (k := ?_)
        refine WL.op (d := 61) (.int .i64 (ws.length : Int)) (k := ?_)
        refine WL.op (d := 62) (.bool ((ws.length : Int) != 2)) (k := ?_)
        refine WL.nil ?_
        refine WX.seqN ?_
        refine WC.rw (t := 62) (v := .bool true) (congrArg Value.bool h43) (k := ?_)
        refine WC.condT (k := ?_)
        refine WC.seq ?_
        refine WC.region ?_
        refine WL.op (d := 63) (gotV 0 GOp.zero 0 0 0 none 0 0 false) (k := ?_)
        refine WL.store (v := gotV 0 GOp.zero 0 0 0 none 0 0 false) (i := 0) (cs' := (Value.cells (gotV 0 GOp.zero 0 0 0 none 0 0 false))) hb4 (k := fun w54 hb55 k56 => ?_)
        replace hb40 := k56.heap hb40 (Ne.symm n13)
        replace K := K.trans' k56 (fun i hi e => absurd (e ▸ hi) (Nat.not_lt.2 z6))
        clear hb4
        refine WL.nil ?_
        refine WX.seqN ?_
        refine WC.ret ?_
        refine WX.seqR ?_
        refine WX.blockR ?_
        refine WX.seqR ?_
        refine WX.ret (rs := [.cell 2 53]) [gotV 0 GOp.zero 0 0 0 none 0 0 false] (gotV 0 GOp.zero 0 0 0 none 0 0 false) ⟨⟨_, (by kernel_rfl), ldN (T := 53) (i := 0) (m := 16) (l := (Value.cells (gotV 0 GOp.zero 0 0 0 none 0 0 false)).toList) hb55⟩, trivial⟩ (k := ?_)
        exact ⟨(⟨⟨0, (⟨0, ⟨0, 0, 0, 0, 0⟩, false, 0, 0, 0⟩ : GOp), 0, 0, 0, []⟩, none, 0⟩ : GCmd), false, rfl, OwAt.nil, (by simp [blk]), (q_task_no hr49 (.inl ph53) (by omega)), (by simp), K⟩
      · have ph53 := of_decide_eq_false h53
        refine WC.region ?_
        refine WL.opE (d := 59) (.bool (ByteArray.toList ⟨(r48).toArray⟩ == ByteArray.toList ⟨([115, 101, 114, 118, 101]).toArray⟩)) (v := .bool (decide (r48 = [115, 101, 114, 118, 101]))) (str_eql _ _) (k := ?_)
        refine WL.op (d := 57) (.bool (decide (r48 = [115, 101, 114, 118, 101]))) (k := ?_)
        refine WL.nil ?_
        refine WX.seqN ?_
        refine WC.cond (b := decide (r48 = [115, 101, 114, 118, 101])) (ht := fun h57 => ?_) (hf := fun h57 => ?_)
        · have ph57 := of_decide_eq_true h57
          refine WC.seq ?_
          refine WC.seq ?_
          refine WC.region ?_
          refine WL.op (d := 60) (.slice A ws.length cp) (k := ?_)
          refine WL.op (d := 61) (.int .i64 (ws.length : Int)) (k := ?_)
          refine WL.op (d := 62) (.bool ((ws.length : Int) != 2)) (k := ?_)
          refine WL.nil ?_
          refine WX.seqN ?_
          refine WC.rw (t := 62) (v := .bool true) (congrArg Value.bool h43) (k := ?_)
          refine WC.condT (k := ?_)
          refine WC.seq ?_
          refine WC.region ?_
          refine WL.op (d := 63) (gotV 0 GOp.zero 0 0 0 none 0 0 false) (k := ?_)
          refine WL.store (v := gotV 0 GOp.zero 0 0 0 none 0 0 false) (i := 0) (cs' := (Value.cells (gotV 0 GOp.zero 0 0 0 none 0 0 false))) hb4 (k := fun w58 hb59 k60 => ?_)
          replace hb40 := k60.heap hb40 (Ne.symm n13)
          replace K := K.trans' k60 (fun i hi e => absurd (e ▸ hi) (Nat.not_lt.2 z6))
          clear hb4
          refine WL.nil ?_
          refine WX.seqN ?_
          refine WC.ret ?_
          refine WX.seqR ?_
          refine WX.blockR ?_
          refine WX.seqR ?_
          refine WX.ret (rs := [.cell 2 53]) [gotV 0 GOp.zero 0 0 0 none 0 0 false] (gotV 0 GOp.zero 0 0 0 none 0 0 false) ⟨⟨_, (by kernel_rfl), ldN (T := 53) (i := 0) (m := 16) (l := (Value.cells (gotV 0 GOp.zero 0 0 0 none 0 0 false)).toList) hb59⟩, trivial⟩ (k := ?_)
          exact ⟨(⟨⟨0, (⟨0, ⟨0, 0, 0, 0, 0⟩, false, 0, 0, 0⟩ : GOp), 0, 0, 0, []⟩, none, 0⟩ : GCmd), false, rfl, OwAt.nil, (by simp [blk]), (q_task_no hr49 (.inr ph57) (by omega)), (by simp), K⟩
        · have ph57 := of_decide_eq_false h57
          refine WC.seq ?_
          refine WC.region ?_
          refine WL.opE (d := 81) (.bool (ByteArray.toList ⟨(r48).toArray⟩ == ByteArray.toList ⟨([114, 101, 109, 111, 118, 101]).toArray⟩)) (v := .bool (decide (r48 = [114, 101, 109, 111, 118, 101]))) (str_eql _ _) (k := ?_)
          refine WL.op (d := 80) (.bool (decide (r48 = [114, 101, 109, 111, 118, 101]))) (k := ?_)
          refine WL.nil ?_
          refine WX.seqN ?_
          refine WC.cond (b := decide (r48 = [114, 101, 109, 111, 118, 101])) (ht := fun h61 => ?_) (hf := fun h61 => ?_)
          · have ph61 := of_decide_eq_true h61
            refine WC.seq ?_
            refine WC.region ?_
            refine WL.op (d := 82) (.slice (some ⟨b7, 0, none⟩) 2 2) (k := ?_)
            refine WL.op (d := 83) (.pointer (some ⟨b7, 0, none⟩)) (k := ?_)
            refine WL.load (v := .int .i64 (numR r18)) (ld1 (T := 2) (i := 0) hb40) (k := ?_)
            refine WL.op (d := 85) (.agg #[.int .i64 2, .int .i64 0, .int .i64 0, .int .i64 0, .int .i64 0, .int .i64 0, .bool false, .int .i64 (numR r18), .int .i64 0, .int .i64 0]) (k := ?_)
            refine WL.op (d := 86) (.agg #[.int .i64 1, .int .i64 2, .int .i64 0, .int .i64 0, .int .i64 0, .int .i64 0, .int .i64 0, .bool false, .int .i64 (numR r18), .int .i64 0, .int .i64 0, .int .i64 0, .int .i64 0, .int .i64 0, .slice none 0 0]) (k := ?_)
            refine WL.op (d := 87) (.bool false) (k := ?_)
            refine WL.op (d := 88) (gotV 1 (⟨2, ⟨0, 0, 0, 0, 0⟩, false, (numR r18), 0, 0⟩ : GOp) 0 0 0 none 0 0 false) (k := ?_)
            refine WL.store (v := gotV 1 (⟨2, ⟨0, 0, 0, 0, 0⟩, false, (numR r18), 0, 0⟩ : GOp) 0 0 0 none 0 0 false) (i := 0) (cs' := (Value.cells (gotV 1 (⟨2, ⟨0, 0, 0, 0, 0⟩, false, (numR r18), 0, 0⟩ : GOp) 0 0 0 none 0 0 false))) hb4 (k := fun w62 hb63 k64 => ?_)
            replace hb40 := k64.heap hb40 (Ne.symm n13)
            replace K := K.trans' k64 (fun i hi e => absurd (e ▸ hi) (Nat.not_lt.2 z6))
            clear hb4
            refine WL.nil ?_
            refine WX.seqN ?_
            refine WC.ret ?_
            refine WX.blockR ?_
            refine WX.seqR ?_
            refine WX.ret (rs := [.cell 2 53]) [gotV 1 (⟨2, ⟨0, 0, 0, 0, 0⟩, false, (numR r18), 0, 0⟩ : GOp) 0 0 0 none 0 0 false] (gotV 1 (⟨2, ⟨0, 0, 0, 0, 0⟩, false, (numR r18), 0, 0⟩ : GOp) 0 0 0 none 0 0 false) ⟨⟨_, (by kernel_rfl), ldN (T := 53) (i := 0) (m := 16) (l := (Value.cells (gotV 1 (⟨2, ⟨0, 0, 0, 0, 0⟩, false, (numR r18), 0, 0⟩ : GOp) 0 0 0 none 0 0 false)).toList) hb63⟩, trivial⟩ (k := ?_)
            exact ⟨(⟨⟨1, (⟨2, ⟨0, 0, 0, 0, 0⟩, false, (numR r18), 0, 0⟩ : GOp), 0, 0, 0, []⟩, none, 0⟩ : GCmd), false, rfl, OwAt.nil, (by simp [blk]), (q_one_no (G := gRemove) (kw := kRemove) (hr49.trans (congrArg some ph61)) qb_remove (by omega)), (by simp), K⟩
          · have ph61 := of_decide_eq_false h61
            refine WC.seq ?_
            refine WC.region ?_
            refine WL.opE (d := 90) (.bool (ByteArray.toList ⟨(r48).toArray⟩ == ByteArray.toList ⟨([114, 101, 115, 105, 122, 101]).toArray⟩)) (v := .bool (decide (r48 = [114, 101, 115, 105, 122, 101]))) (str_eql _ _) (k := ?_)
            refine WL.op (d := 89) (.bool (decide (r48 = [114, 101, 115, 105, 122, 101]))) (k := ?_)
            refine WL.nil ?_
            refine WX.seqN ?_
            refine WC.cond (b := decide (r48 = [114, 101, 115, 105, 122, 101])) (ht := fun h65 => ?_) (hf := fun h65 => ?_)
            · have ph65 := of_decide_eq_true h65
              refine WC.seq ?_
              refine WC.mixed (fun _ => False) 10 (k := fun w66 k67 => ?_)
              replace hb4 := k67.heap hb4 id
              replace hb40 := k67.heap hb40 id
              replace K := K.trans (k67.any _)
              have KC := Keeps.refl (fun _ => False) w66
              have bh68 := hb4
              have bh69 := hb40
              have Kb := K
              refine WA.quiet 0 (d := 91) (.slice (some ⟨b7, 0, none⟩) 2 2) KC (hi := rfl) (k := ?_)
              refine WA.quiet 1 (d := 92) (.pointer (some ⟨b7, 0, none⟩)) KC (hi := rfl) (k := ?_)
              refine WA.quietR 2 (d := 93) (.int .i64 (numR r18)) KC (exec_load (fun w_ k_ => ld1 (T := 2) (i := 0) (k_.heap bh69 id))) (hi := rfl) (k := ?_)
              refine WA.quiet 3 (d := 94) (.slice (some ⟨b7, 0, none⟩) 2 2) KC (hi := rfl) (k := ?_)
              refine WA.quiet 4 (d := 95) (.pointer (some ⟨b7, 1, none⟩)) KC (hi := rfl) (k := ?_)
              refine WA.quietR 5 (d := 96) (.int .i64 (numR r31)) KC (exec_load (fun w_ k_ => ld1 (T := 2) (i := 1) (k_.heap bh69 id))) (hi := rfl) (k := ?_)
              refine WA.quiet 6 (d := 97) (.agg #[.int .i64 3, .int .i64 0, .int .i64 0, .int .i64 0, .int .i64 0, .int .i64 0, .bool false, .int .i64 (numR r18), .int .i64 (numR r31), .int .i64 0]) KC (hi := rfl) (k := ?_)
              refine WA.quiet 7 (d := 98) (.agg #[.int .i64 1, .int .i64 3, .int .i64 0, .int .i64 0, .int .i64 0, .int .i64 0, .int .i64 0, .bool false, .int .i64 (numR r18), .int .i64 (numR r31), .int .i64 0, .int .i64 0, .int .i64 0, .int .i64 0, .slice none 0 0]) KC (hi := rfl) (k := ?_)
              refine WA.quiet 8 (d := 99) (.bool (decide ((numR r31) ≥ 0))) KC (hi := rfl) (k := ?_)
              refine WA.quiet 9 (d := 100) (gotV 1 (⟨3, ⟨0, 0, 0, 0, 0⟩, false, (numR r18), (numR r31), 0⟩ : GOp) 0 0 0 none 0 0 (decide ((numR r31) ≥ 0))) KC (hi := rfl) (k := ?_)
              refine WA.step 10 (hi := rfl) (k := ?_)
              refine WL.store (v := gotV 1 (⟨3, ⟨0, 0, 0, 0, 0⟩, false, (numR r18), (numR r31), 0⟩ : GOp) 0 0 0 none 0 0 (decide ((numR r31) ≥ 0))) (i := 0) (cs' := (Value.cells (gotV 1 (⟨3, ⟨0, 0, 0, 0, 0⟩, false, (numR r18), (numR r31), 0⟩ : GOp) 0 0 0 none 0 0 (decide ((numR r31) ≥ 0))))) hb4 (k := fun w70 hb71 k72 => ?_)
              replace hb40 := k72.heap hb40 (Ne.symm n13)
              replace K := K.trans' k72 (fun i hi e => absurd (e ▸ hi) (Nat.not_lt.2 z6))
              clear hb4
              refine WL.nil ?_
              refine WX.nxtL ?_
              refine WA.done (k := ?_)
              clear KC
              refine WX.seqN ?_
              refine WC.ret ?_
              refine WX.blockR ?_
              refine WX.seqR ?_
              refine WX.ret (rs := [.cell 2 53]) [gotV 1 (⟨3, ⟨0, 0, 0, 0, 0⟩, false, (numR r18), (numR r31), 0⟩ : GOp) 0 0 0 none 0 0 (decide ((numR r31) ≥ 0))] (gotV 1 (⟨3, ⟨0, 0, 0, 0, 0⟩, false, (numR r18), (numR r31), 0⟩ : GOp) 0 0 0 none 0 0 (decide ((numR r31) ≥ 0))) ⟨⟨_, (by kernel_rfl), ldN (T := 53) (i := 0) (m := 16) (l := (Value.cells (gotV 1 (⟨3, ⟨0, 0, 0, 0, 0⟩, false, (numR r18), (numR r31), 0⟩ : GOp) 0 0 0 none 0 0 (decide ((numR r31) ≥ 0)))).toList) hb71⟩, trivial⟩ (k := ?_)
              exact ⟨(⟨⟨1, (⟨3, ⟨0, 0, 0, 0, 0⟩, false, (numR r18), (numR r31), 0⟩ : GOp), 0, 0, 0, []⟩, none, 0⟩ : GCmd), decide ((numR r31) ≥ 0), rfl, OwAt.nil, (by simp [blk]), ((q_two (G := gResize) (kw := kResize) (hr49.trans (congrArg some ph65)) qb_resize (by omega) hr19 hr32).1 (numR_pos.1 ph45)), (by simp), K⟩
            · have ph65 := of_decide_eq_false h65
              refine WC.seq ?_
              refine WC.region ?_
              refine WL.opE (d := 102) (.bool (ByteArray.toList ⟨(r48).toArray⟩ == ByteArray.toList ⟨([109, 111, 100, 101]).toArray⟩)) (v := .bool (decide (r48 = [109, 111, 100, 101]))) (str_eql _ _) (k := ?_)
              refine WL.op (d := 101) (.bool (decide (r48 = [109, 111, 100, 101]))) (k := ?_)
              refine WL.nil ?_
              refine WX.seqN ?_
              refine WC.cond (b := decide (r48 = [109, 111, 100, 101])) (ht := fun h73 => ?_) (hf := fun h73 => ?_)
              · have ph73 := of_decide_eq_true h73
                refine WC.seq ?_
                refine WC.region ?_
                refine WL.op (d := 103) (.slice (some ⟨b7, 0, none⟩) 2 2) (k := ?_)
                refine WL.op (d := 104) (.pointer (some ⟨b7, 0, none⟩)) (k := ?_)
                refine WL.load (v := .int .i64 (numR r18)) (ld1 (T := 2) (i := 0) hb40) (k := ?_)
                refine WL.op (d := 106) (.agg #[.int .i64 4, .int .i64 0, .int .i64 0, .int .i64 0, .int .i64 0, .int .i64 0, .bool false, .int .i64 0, .int .i64 0, .int .i64 (numR r18)]) (k := ?_)
                refine WL.op (d := 107) (.agg #[.int .i64 1, .int .i64 4, .int .i64 0, .int .i64 0, .int .i64 0, .int .i64 0, .int .i64 0, .bool false, .int .i64 0, .int .i64 0, .int .i64 (numR r18), .int .i64 0, .int .i64 0, .int .i64 0, .slice none 0 0]) (k := ?_)
                refine WL.op (d := 108) (.bool false) (k := ?_)
                refine WL.op (d := 109) (gotV 1 (⟨4, ⟨0, 0, 0, 0, 0⟩, false, 0, 0, (numR r18)⟩ : GOp) 0 0 0 none 0 0 false) (k := ?_)
                refine WL.store (v := gotV 1 (⟨4, ⟨0, 0, 0, 0, 0⟩, false, 0, 0, (numR r18)⟩ : GOp) 0 0 0 none 0 0 false) (i := 0) (cs' := (Value.cells (gotV 1 (⟨4, ⟨0, 0, 0, 0, 0⟩, false, 0, 0, (numR r18)⟩ : GOp) 0 0 0 none 0 0 false))) hb4 (k := fun w74 hb75 k76 => ?_)
                replace hb40 := k76.heap hb40 (Ne.symm n13)
                replace K := K.trans' k76 (fun i hi e => absurd (e ▸ hi) (Nat.not_lt.2 z6))
                clear hb4
                refine WL.nil ?_
                refine WX.seqN ?_
                refine WC.ret ?_
                refine WX.blockR ?_
                refine WX.seqR ?_
                refine WX.ret (rs := [.cell 2 53]) [gotV 1 (⟨4, ⟨0, 0, 0, 0, 0⟩, false, 0, 0, (numR r18)⟩ : GOp) 0 0 0 none 0 0 false] (gotV 1 (⟨4, ⟨0, 0, 0, 0, 0⟩, false, 0, 0, (numR r18)⟩ : GOp) 0 0 0 none 0 0 false) ⟨⟨_, (by kernel_rfl), ldN (T := 53) (i := 0) (m := 16) (l := (Value.cells (gotV 1 (⟨4, ⟨0, 0, 0, 0, 0⟩, false, 0, 0, (numR r18)⟩ : GOp) 0 0 0 none 0 0 false)).toList) hb75⟩, trivial⟩ (k := ?_)
                exact ⟨(⟨⟨1, (⟨4, ⟨0, 0, 0, 0, 0⟩, false, 0, 0, (numR r18)⟩ : GOp), 0, 0, 0, []⟩, none, 0⟩ : GCmd), false, rfl, OwAt.nil, (by simp [blk]), (q_one_no (G := gMode) (kw := kMode) (hr49.trans (congrArg some ph73)) qb_mode (by omega)), (by simp), K⟩
              · have ph73 := of_decide_eq_false h73
                refine WC.seq ?_
                refine WC.region ?_
                refine WL.opE (d := 111) (.bool (ByteArray.toList ⟨(r48).toArray⟩ == ByteArray.toList ⟨([114, 101, 108, 101, 97, 115, 101]).toArray⟩)) (v := .bool (decide (r48 = [114, 101, 108, 101, 97, 115, 101]))) (str_eql _ _) (k := ?_)
                refine WL.op (d := 110) (.bool (decide (r48 = [114, 101, 108, 101, 97, 115, 101]))) (k := ?_)
                refine WL.nil ?_
                refine WX.seqN ?_
                refine WC.cond (b := decide (r48 = [114, 101, 108, 101, 97, 115, 101])) (ht := fun h77 => ?_) (hf := fun h77 => ?_)
                · have ph77 := of_decide_eq_true h77
                  refine WC.seq ?_
                  refine WC.mixed (fun _ => False) 9 (k := fun w78 k79 => ?_)
                  replace hb4 := k79.heap hb4 id
                  replace hb40 := k79.heap hb40 id
                  replace K := K.trans (k79.any _)
                  have KC := Keeps.refl (fun _ => False) w78
                  have bh80 := hb4
                  have bh81 := hb40
                  have Kb := K
                  refine WA.quiet 0 (d := 112) (.slice (some ⟨b7, 0, none⟩) 2 2) KC (hi := rfl) (k := ?_)
                  refine WA.quiet 1 (d := 113) (.pointer (some ⟨b7, 0, none⟩)) KC (hi := rfl) (k := ?_)
                  refine WA.quietR 2 (d := 114) (.int .i64 (numR r18)) KC (exec_load (fun w_ k_ => ld1 (T := 2) (i := 0) (k_.heap bh81 id))) (hi := rfl) (k := ?_)
                  refine WA.quiet 3 (d := 115) (.slice (some ⟨b7, 0, none⟩) 2 2) KC (hi := rfl) (k := ?_)
                  refine WA.quiet 4 (d := 116) (.pointer (some ⟨b7, 1, none⟩)) KC (hi := rfl) (k := ?_)
                  refine WA.quietR 5 (d := 117) (.int .i64 (numR r31)) KC (exec_load (fun w_ k_ => ld1 (T := 2) (i := 1) (k_.heap bh81 id))) (hi := rfl) (k := ?_)
                  refine WA.quiet 6 (d := 118) (.agg #[.int .i64 2, .int .i64 0, .int .i64 0, .int .i64 0, .int .i64 0, .int .i64 0, .int .i64 0, .bool false, .int .i64 0, .int .i64 0, .int .i64 0, .int .i64 (numR r18), .int .i64 (numR r31), .int .i64 0, .slice none 0 0]) KC (hi := rfl) (k := ?_)
                  refine WA.quiet 7 (d := 119) (.bool (decide ((numR r31) ≥ 0))) KC (hi := rfl) (k := ?_)
                  refine WA.quiet 8 (d := 120) (gotV 2 GOp.zero (numR r18) (numR r31) 0 none 0 0 (decide ((numR r31) ≥ 0))) KC (hi := rfl) (k := ?_)
                  refine WA.step 9 (hi := rfl) (k := ?_)
                  refine WL.store (v := gotV 2 GOp.zero (numR r18) (numR r31) 0 none 0 0 (decide ((numR r31) ≥ 0))) (i := 0) (cs' := (Value.cells (gotV 2 GOp.zero (numR r18) (numR r31) 0 none 0 0 (decide ((numR r31) ≥ 0))))) hb4 (k := fun w82 hb83 k84 => ?_)
                  replace hb40 := k84.heap hb40 (Ne.symm n13)
                  replace K := K.trans' k84 (fun i hi e => absurd (e ▸ hi) (Nat.not_lt.2 z6))
                  clear hb4
                  refine WL.nil ?_
                  refine WX.nxtL ?_
                  refine WA.done (k := ?_)
                  clear KC
                  refine WX.seqN ?_
                  refine WC.ret ?_
                  refine WX.blockR ?_
                  refine WX.seqR ?_
                  refine WX.ret (rs := [.cell 2 53]) [gotV 2 GOp.zero (numR r18) (numR r31) 0 none 0 0 (decide ((numR r31) ≥ 0))] (gotV 2 GOp.zero (numR r18) (numR r31) 0 none 0 0 (decide ((numR r31) ≥ 0))) ⟨⟨_, (by kernel_rfl), ldN (T := 53) (i := 0) (m := 16) (l := (Value.cells (gotV 2 GOp.zero (numR r18) (numR r31) 0 none 0 0 (decide ((numR r31) ≥ 0)))).toList) hb83⟩, trivial⟩ (k := ?_)
                  exact ⟨(⟨⟨2, (⟨0, ⟨0, 0, 0, 0, 0⟩, false, 0, 0, 0⟩ : GOp), (numR r18), (numR r31), 0, []⟩, none, 0⟩ : GCmd), decide ((numR r31) ≥ 0), rfl, OwAt.nil, (by simp [blk]), ((q_two (G := (gWrk 2)) (kw := kRelease) (hr49.trans (congrArg some ph77)) (qb_wrk (.inl ⟨rfl, rfl⟩)) (by omega) hr19 hr32).1 (numR_pos.1 ph45)), (by simp), K⟩
                · have ph77 := of_decide_eq_false h77
                  refine WC.seq ?_
                  refine WC.region ?_
                  refine WL.opE (d := 122) (.bool (ByteArray.toList ⟨(r48).toArray⟩ == ByteArray.toList ⟨([97, 115, 107]).toArray⟩)) (v := .bool (decide (r48 = [97, 115, 107]))) (str_eql _ _) (k := ?_)
                  refine WL.op (d := 121) (.bool (decide (r48 = [97, 115, 107]))) (k := ?_)
                  refine WL.nil ?_
                  refine WX.seqN ?_
                  refine WC.cond (b := decide (r48 = [97, 115, 107])) (ht := fun h85 => ?_) (hf := fun h85 => ?_)
                  · have ph85 := of_decide_eq_true h85
                    refine WC.seq ?_
                    refine WC.mixed (fun _ => False) 9 (k := fun w86 k87 => ?_)
                    replace hb4 := k87.heap hb4 id
                    replace hb40 := k87.heap hb40 id
                    replace K := K.trans (k87.any _)
                    have KC := Keeps.refl (fun _ => False) w86
                    have bh88 := hb4
                    have bh89 := hb40
                    have Kb := K
                    refine WA.quiet 0 (d := 123) (.slice (some ⟨b7, 0, none⟩) 2 2) KC (hi := rfl) (k := ?_)
                    refine WA.quiet 1 (d := 124) (.pointer (some ⟨b7, 0, none⟩)) KC (hi := rfl) (k := ?_)
                    refine WA.quietR 2 (d := 125) (.int .i64 (numR r18)) KC (exec_load (fun w_ k_ => ld1 (T := 2) (i := 0) (k_.heap bh89 id))) (hi := rfl) (k := ?_)
                    refine WA.quiet 3 (d := 126) (.slice (some ⟨b7, 0, none⟩) 2 2) KC (hi := rfl) (k := ?_)
                    refine WA.quiet 4 (d := 127) (.pointer (some ⟨b7, 1, none⟩)) KC (hi := rfl) (k := ?_)
                    refine WA.quietR 5 (d := 128) (.int .i64 (numR r31)) KC (exec_load (fun w_ k_ => ld1 (T := 2) (i := 1) (k_.heap bh89 id))) (hi := rfl) (k := ?_)
                    refine WA.quiet 6 (d := 129) (.agg #[.int .i64 3, .int .i64 0, .int .i64 0, .int .i64 0, .int .i64 0, .int .i64 0, .int .i64 0, .bool false, .int .i64 0, .int .i64 0, .int .i64 0, .int .i64 (numR r18), .int .i64 (numR r31), .int .i64 0, .slice none 0 0]) KC (hi := rfl) (k := ?_)
                    refine WA.quiet 7 (d := 130) (.bool (decide ((numR r31) ≥ 0))) KC (hi := rfl) (k := ?_)
                    refine WA.quiet 8 (d := 131) (gotV 3 GOp.zero (numR r18) (numR r31) 0 none 0 0 (decide ((numR r31) ≥ 0))) KC (hi := rfl) (k := ?_)
                    refine WA.step 9 (hi := rfl) (k := ?_)
                    refine WL.store (v := gotV 3 GOp.zero (numR r18) (numR r31) 0 none 0 0 (decide ((numR r31) ≥ 0))) (i := 0) (cs' := (Value.cells (gotV 3 GOp.zero (numR r18) (numR r31) 0 none 0 0 (decide ((numR r31) ≥ 0))))) hb4 (k := fun w90 hb91 k92 => ?_)
                    replace hb40 := k92.heap hb40 (Ne.symm n13)
                    replace K := K.trans' k92 (fun i hi e => absurd (e ▸ hi) (Nat.not_lt.2 z6))
                    clear hb4
                    refine WL.nil ?_
                    refine WX.nxtL ?_
                    refine WA.done (k := ?_)
                    clear KC
                    refine WX.seqN ?_
                    refine WC.ret ?_
                    refine WX.blockR ?_
                    refine WX.seqR ?_
                    refine WX.ret (rs := [.cell 2 53]) [gotV 3 GOp.zero (numR r18) (numR r31) 0 none 0 0 (decide ((numR r31) ≥ 0))] (gotV 3 GOp.zero (numR r18) (numR r31) 0 none 0 0 (decide ((numR r31) ≥ 0))) ⟨⟨_, (by kernel_rfl), ldN (T := 53) (i := 0) (m := 16) (l := (Value.cells (gotV 3 GOp.zero (numR r18) (numR r31) 0 none 0 0 (decide ((numR r31) ≥ 0)))).toList) hb91⟩, trivial⟩ (k := ?_)
                    exact ⟨(⟨⟨3, (⟨0, ⟨0, 0, 0, 0, 0⟩, false, 0, 0, 0⟩ : GOp), (numR r18), (numR r31), 0, []⟩, none, 0⟩ : GCmd), decide ((numR r31) ≥ 0), rfl, OwAt.nil, (by simp [blk]), ((q_two (G := (gWrk 3)) (kw := kAsk) (hr49.trans (congrArg some ph85)) (qb_wrk (.inr ⟨rfl, rfl⟩)) (by omega) hr19 hr32).1 (numR_pos.1 ph45)), (by simp), K⟩
                  · have ph85 := of_decide_eq_false h85
                    refine WC.seq ?_
                    refine WC.region ?_
                    refine WL.opE (d := 133) (.bool (ByteArray.toList ⟨(r48).toArray⟩ == ByteArray.toList ⟨([116, 105, 99, 107]).toArray⟩)) (v := .bool (decide (r48 = [116, 105, 99, 107]))) (str_eql _ _) (k := ?_)
                    refine WL.op (d := 132) (.bool (decide (r48 = [116, 105, 99, 107]))) (k := ?_)
                    refine WL.nil ?_
                    refine WX.seqN ?_
                    refine WC.cond (b := decide (r48 = [116, 105, 99, 107])) (ht := fun h93 => ?_) (hf := fun h93 => ?_)
                    · have ph93 := of_decide_eq_true h93
                      refine WC.seq ?_
                      refine WC.region ?_
                      refine WL.op (d := 134) (.slice (some ⟨b7, 0, none⟩) 2 2) (k := ?_)
                      refine WL.op (d := 135) (.pointer (some ⟨b7, 0, none⟩)) (k := ?_)
                      refine WL.load (v := .int .i64 (numR r18)) (ld1 (T := 2) (i := 0) hb40) (k := ?_)
                      refine WL.op (d := 137) (.agg #[.int .i64 4, .int .i64 0, .int .i64 0, .int .i64 0, .int .i64 0, .int .i64 0, .int .i64 0, .bool false, .int .i64 0, .int .i64 0, .int .i64 0, .int .i64 0, .int .i64 0, .int .i64 (numR r18), .slice none 0 0]) (k := ?_)
                      refine WL.op (d := 138) (.bool false) (k := ?_)
                      refine WL.op (d := 139) (gotV 4 GOp.zero 0 0 (numR r18) none 0 0 false) (k := ?_)
                      refine WL.store (v := gotV 4 GOp.zero 0 0 (numR r18) none 0 0 false) (i := 0) (cs' := (Value.cells (gotV 4 GOp.zero 0 0 (numR r18) none 0 0 false))) hb4 (k := fun w94 hb95 k96 => ?_)
                      replace hb40 := k96.heap hb40 (Ne.symm n13)
                      replace K := K.trans' k96 (fun i hi e => absurd (e ▸ hi) (Nat.not_lt.2 z6))
                      clear hb4
                      refine WL.nil ?_
                      refine WX.seqN ?_
                      refine WC.ret ?_
                      refine WX.blockR ?_
                      refine WX.seqR ?_
                      refine WX.ret (rs := [.cell 2 53]) [gotV 4 GOp.zero 0 0 (numR r18) none 0 0 false] (gotV 4 GOp.zero 0 0 (numR r18) none 0 0 false) ⟨⟨_, (by kernel_rfl), ldN (T := 53) (i := 0) (m := 16) (l := (Value.cells (gotV 4 GOp.zero 0 0 (numR r18) none 0 0 false)).toList) hb95⟩, trivial⟩ (k := ?_)
                      exact ⟨(⟨⟨4, (⟨0, ⟨0, 0, 0, 0, 0⟩, false, 0, 0, 0⟩ : GOp), 0, 0, (numR r18), []⟩, none, 0⟩ : GCmd), false, rfl, OwAt.nil, (by simp [blk]), (q_one_no (G := gTick) (kw := kTick) (hr49.trans (congrArg some ph93)) qb_tick (by omega)), (by simp), K⟩
                    · have ph93 := of_decide_eq_false h93
                      refine WC.seq ?_
                      refine WC.region ?_
                      refine WL.opE (d := 141) (.bool (ByteArray.toList ⟨(r48).toArray⟩ == ByteArray.toList ⟨([102, 97, 105, 108]).toArray⟩)) (v := .bool (decide (r48 = [102, 97, 105, 108]))) (str_eql _ _) (k := ?_)
                      refine WL.op (d := 140) (.bool (decide (r48 = [102, 97, 105, 108]))) (k := ?_)
                      refine WL.nil ?_
                      refine WX.seqN ?_
                      refine WC.cond (b := decide (r48 = [102, 97, 105, 108])) (ht := fun h97 => ?_) (hf := fun h97 => ?_)
                      · have ph97 := of_decide_eq_true h97
                        refine WC.seq ?_
                        refine WC.region ?_
                        refine WL.op (d := 142) (.slice (some ⟨b7, 0, none⟩) 2 2) (k := ?_)
                        refine WL.op (d := 143) (.pointer (some ⟨b7, 0, none⟩)) (k := ?_)
                        refine WL.load (v := .int .i64 (numR r18)) (ld1 (T := 2) (i := 0) hb40) (k := ?_)
                        refine WL.op (d := 145) (.agg #[.int .i64 7, .int .i64 0, .int .i64 0, .int .i64 0, .int .i64 0, .int .i64 0, .int .i64 0, .bool false, .int .i64 0, .int .i64 0, .int .i64 0, .int .i64 0, .int .i64 0, .int .i64 (numR r18), .slice none 0 0]) (k := ?_)
                        refine WL.op (d := 146) (.bool false) (k := ?_)
                        refine WL.op (d := 147) (gotV 7 GOp.zero 0 0 (numR r18) none 0 0 false) (k := ?_)
                        refine WL.store (v := gotV 7 GOp.zero 0 0 (numR r18) none 0 0 false) (i := 0) (cs' := (Value.cells (gotV 7 GOp.zero 0 0 (numR r18) none 0 0 false))) hb4 (k := fun w98 hb99 k100 => ?_)
                        replace hb40 := k100.heap hb40 (Ne.symm n13)
                        replace K := K.trans' k100 (fun i hi e => absurd (e ▸ hi) (Nat.not_lt.2 z6))
                        clear hb4
                        refine WL.nil ?_
                        refine WX.seqN ?_
                        refine WC.ret ?_
                        refine WX.blockR ?_
                        refine WX.seqR ?_
                        refine WX.ret (rs := [.cell 2 53]) [gotV 7 GOp.zero 0 0 (numR r18) none 0 0 false] (gotV 7 GOp.zero 0 0 (numR r18) none 0 0 false) ⟨⟨_, (by kernel_rfl), ldN (T := 53) (i := 0) (m := 16) (l := (Value.cells (gotV 7 GOp.zero 0 0 (numR r18) none 0 0 false)).toList) hb99⟩, trivial⟩ (k := ?_)
                        exact ⟨(⟨⟨7, (⟨0, ⟨0, 0, 0, 0, 0⟩, false, 0, 0, 0⟩ : GOp), 0, 0, (numR r18), []⟩, none, 0⟩ : GCmd), false, rfl, OwAt.nil, (by simp [blk]), (q_one_no (G := gFail) (kw := kFail) (hr49.trans (congrArg some ph97)) qb_fail (by omega)), (by simp), K⟩
                      · have ph97 := of_decide_eq_false h97
                        refine WC.seq ?_
                        refine WC.region ?_
                        refine WL.opE (d := 149) (.bool (ByteArray.toList ⟨(r48).toArray⟩ == ByteArray.toList ⟨([113, 117, 101, 114, 121]).toArray⟩)) (v := .bool (decide (r48 = [113, 117, 101, 114, 121]))) (str_eql _ _) (k := ?_)
                        refine WL.op (d := 148) (.bool (decide (r48 = [113, 117, 101, 114, 121]))) (k := ?_)
                        refine WL.nil ?_
                        refine WX.seqN ?_
                        refine WC.cond (b := decide (r48 = [113, 117, 101, 114, 121])) (ht := fun h101 => ?_) (hf := fun h101 => ?_)
                        · have ph101 := of_decide_eq_true h101
                          refine WC.seq ?_
                          refine WC.region ?_
                          refine WL.op (d := 150) (.slice (some ⟨b7, 0, none⟩) 2 2) (k := ?_)
                          refine WL.op (d := 151) (.pointer (some ⟨b7, 0, none⟩)) (k := ?_)
                          refine WL.load (v := .int .i64 (numR r18)) (ld1 (T := 2) (i := 0) hb40) (k := ?_)
                          refine WL.op (d := 153) (.agg #[.int .i64 5, .int .i64 0, .int .i64 0, .int .i64 0, .int .i64 0, .int .i64 0, .int .i64 0, .bool false, .int .i64 0, .int .i64 0, .int .i64 0, .int .i64 (numR r18), .int .i64 0, .int .i64 0, .slice none 0 0]) (k := ?_)
                          refine WL.op (d := 154) (.bool false) (k := ?_)
                          refine WL.op (d := 155) (gotV 5 GOp.zero (numR r18) 0 0 none 0 0 false) (k := ?_)
                          refine WL.store (v := gotV 5 GOp.zero (numR r18) 0 0 none 0 0 false) (i := 0) (cs' := (Value.cells (gotV 5 GOp.zero (numR r18) 0 0 none 0 0 false))) hb4 (k := fun w102 hb103 k104 => ?_)
                          replace hb40 := k104.heap hb40 (Ne.symm n13)
                          replace K := K.trans' k104 (fun i hi e => absurd (e ▸ hi) (Nat.not_lt.2 z6))
                          clear hb4
                          refine WL.nil ?_
                          refine WX.seqN ?_
                          refine WC.ret ?_
                          refine WX.blockR ?_
                          refine WX.seqR ?_
                          refine WX.ret (rs := [.cell 2 53]) [gotV 5 GOp.zero (numR r18) 0 0 none 0 0 false] (gotV 5 GOp.zero (numR r18) 0 0 none 0 0 false) ⟨⟨_, (by kernel_rfl), ldN (T := 53) (i := 0) (m := 16) (l := (Value.cells (gotV 5 GOp.zero (numR r18) 0 0 none 0 0 false)).toList) hb103⟩, trivial⟩ (k := ?_)
                          exact ⟨(⟨⟨5, (⟨0, ⟨0, 0, 0, 0, 0⟩, false, 0, 0, 0⟩ : GOp), (numR r18), 0, 0, []⟩, none, 0⟩ : GCmd), false, rfl, OwAt.nil, (by simp [blk]), (q_one_no (G := gQuery) (kw := kQuery) (hr49.trans (congrArg some ph101)) qb_query (by omega)), (by simp), K⟩
                        · have ph101 := of_decide_eq_false h101
                          refine WC.seq ?_
                          refine WC.region ?_
                          refine WL.opE (d := 157) (.bool (ByteArray.toList ⟨(r48).toArray⟩ == ByteArray.toList ⟨([115, 110, 97, 112, 115, 104, 111, 116]).toArray⟩)) (v := .bool (decide (r48 = [115, 110, 97, 112, 115, 104, 111, 116]))) (str_eql _ _) (k := ?_)
                          refine WL.op (d := 156) (.bool (decide (r48 = [115, 110, 97, 112, 115, 104, 111, 116]))) (k := ?_)
                          refine WL.nil ?_
                          refine WX.seqN ?_
                          refine WC.cond (b := decide (r48 = [115, 110, 97, 112, 115, 104, 111, 116])) (ht := fun h105 => ?_) (hf := fun h105 => ?_)
                          · have ph105 := of_decide_eq_true h105
                            refine WC.seq ?_
                            refine WC.region ?_
                            refine WL.op (d := 158) (.agg #[.int .i64 6, .int .i64 0, .int .i64 0, .int .i64 0, .int .i64 0, .int .i64 0, .int .i64 0, .bool false, .int .i64 0, .int .i64 0, .int .i64 0, .int .i64 0, .int .i64 0, .int .i64 0, .slice none 0 0]) (k := ?_)
                            refine WL.op (d := 159) (.slice A ws.length cp) (k := ?_)
                            refine WL.op (d := 160) (.int .i64 (ws.length : Int)) (k := ?_)
                            refine WL.op (d := 161) (.bool ((ws.length : Int) == 1)) (k := ?_)
                            refine WL.op (d := 162) (gotV 6 GOp.zero 0 0 0 none 0 0 ((ws.length : Int) == 1)) (k := ?_)
                            refine WL.store (v := gotV 6 GOp.zero 0 0 0 none 0 0 ((ws.length : Int) == 1)) (i := 0) (cs' := (Value.cells (gotV 6 GOp.zero 0 0 0 none 0 0 ((ws.length : Int) == 1)))) hb4 (k := fun w106 hb107 k108 => ?_)
                            replace hb40 := k108.heap hb40 (Ne.symm n13)
                            replace K := K.trans' k108 (fun i hi e => absurd (e ▸ hi) (Nat.not_lt.2 z6))
                            clear hb4
                            refine WL.nil ?_
                            refine WX.seqN ?_
                            refine WC.ret ?_
                            refine WX.blockR ?_
                            refine WX.seqR ?_
                            refine WX.ret (rs := [.cell 2 53]) [gotV 6 GOp.zero 0 0 0 none 0 0 ((ws.length : Int) == 1)] (gotV 6 GOp.zero 0 0 0 none 0 0 ((ws.length : Int) == 1)) ⟨⟨_, (by kernel_rfl), ldN (T := 53) (i := 0) (m := 16) (l := (Value.cells (gotV 6 GOp.zero 0 0 0 none 0 0 ((ws.length : Int) == 1))).toList) hb107⟩, trivial⟩ (k := ?_)
                            exact ⟨(⟨⟨6, (⟨0, ⟨0, 0, 0, 0, 0⟩, false, 0, 0, 0⟩ : GOp), 0, 0, 0, []⟩, none, 0⟩ : GCmd), (ws.length : Int) == 1, rfl, OwAt.nil, (by simp [blk]), (q_nil (kw := kSnapshot) (hr49.trans (congrArg some ph105)) qb_snap), (by simp), K⟩
                          · have ph105 := of_decide_eq_false h105
                            refine WC.seq ?_
                            refine WC.region ?_
                            refine WL.opE (d := 164) (.bool (ByteArray.toList ⟨(r48).toArray⟩ == ByteArray.toList ⟨([115, 116, 97, 114, 116]).toArray⟩)) (v := .bool (decide (r48 = [115, 116, 97, 114, 116]))) (str_eql _ _) (k := ?_)
                            refine WL.op (d := 163) (.bool (decide (r48 = [115, 116, 97, 114, 116]))) (k := ?_)
                            refine WL.nil ?_
                            refine WX.seqN ?_
                            refine WC.cond (b := decide (r48 = [115, 116, 97, 114, 116])) (ht := fun h109 => ?_) (hf := fun h109 => ?_)
                            · have ph109 := of_decide_eq_true h109
                              refine WC.seq ?_
                              refine WC.region ?_
                              refine WL.op (d := 165) (.agg #[.int .i64 9, .int .i64 0, .int .i64 0, .int .i64 0, .int .i64 0, .int .i64 0, .int .i64 0, .bool false, .int .i64 0, .int .i64 0, .int .i64 0, .int .i64 0, .int .i64 0, .int .i64 0, .slice none 0 0]) (k := ?_)
                              refine WL.op (d := 166) (.slice A ws.length cp) (k := ?_)
                              refine WL.op (d := 167) (.int .i64 (ws.length : Int)) (k := ?_)
                              refine WL.op (d := 168) (.bool ((ws.length : Int) == 1)) (k := ?_)
                              refine WL.op (d := 169) (gotV 9 GOp.zero 0 0 0 none 0 0 ((ws.length : Int) == 1)) (k := ?_)
                              refine WL.store (v := gotV 9 GOp.zero 0 0 0 none 0 0 ((ws.length : Int) == 1)) (i := 0) (cs' := (Value.cells (gotV 9 GOp.zero 0 0 0 none 0 0 ((ws.length : Int) == 1)))) hb4 (k := fun w110 hb111 k112 => ?_)
                              replace hb40 := k112.heap hb40 (Ne.symm n13)
                              replace K := K.trans' k112 (fun i hi e => absurd (e ▸ hi) (Nat.not_lt.2 z6))
                              clear hb4
                              refine WL.nil ?_
                              refine WX.seqN ?_
                              refine WC.ret ?_
                              refine WX.blockR ?_
                              refine WX.seqR ?_
                              refine WX.ret (rs := [.cell 2 53]) [gotV 9 GOp.zero 0 0 0 none 0 0 ((ws.length : Int) == 1)] (gotV 9 GOp.zero 0 0 0 none 0 0 ((ws.length : Int) == 1)) ⟨⟨_, (by kernel_rfl), ldN (T := 53) (i := 0) (m := 16) (l := (Value.cells (gotV 9 GOp.zero 0 0 0 none 0 0 ((ws.length : Int) == 1))).toList) hb111⟩, trivial⟩ (k := ?_)
                              exact ⟨(⟨⟨9, (⟨0, ⟨0, 0, 0, 0, 0⟩, false, 0, 0, 0⟩ : GOp), 0, 0, 0, []⟩, none, 0⟩ : GCmd), (ws.length : Int) == 1, rfl, OwAt.nil, (by simp [blk]), (q_nil (kw := kStart) (hr49.trans (congrArg some ph109)) qb_start), (by simp), K⟩
                            · have ph109 := of_decide_eq_false h109
                              refine WC.seq ?_
                              refine WC.region ?_
                              refine WL.opE (d := 171) (.bool (ByteArray.toList ⟨(r48).toArray⟩ == ByteArray.toList ⟨([99, 114, 97, 115, 104]).toArray⟩)) (v := .bool (decide (r48 = [99, 114, 97, 115, 104]))) (str_eql _ _) (k := ?_)
                              refine WL.op (d := 170) (.bool (decide (r48 = [99, 114, 97, 115, 104]))) (k := ?_)
                              refine WL.nil ?_
                              refine WX.seqN ?_
                              refine WC.cond (b := decide (r48 = [99, 114, 97, 115, 104])) (ht := fun h113 => ?_) (hf := fun h113 => ?_)
                              · have ph113 := of_decide_eq_true h113
                                refine WC.seq ?_
                                refine WC.region ?_
                                refine WL.op (d := 172) (.slice A ws.length cp) (k := ?_)
                                have hs114 := SlAt.cutD (a := 1) (c := cp) hA (by omega) (by omega)
                                refine WL.cut (d := 173) (vx := .slice A ws.length cp) (lo' := (some (.int .i64 1))) (hi' := none) (mx' := none) (v := .slice (cutA A cp 1 1) ((List.drop 1 ws).length) (cp - 1)) (run_cutSl (a := 1) (b := ws.length) (c := cp) (m := 1) (E := 9) (by kernel_rfl) (by kernel_rfl) (.inl ⟨rfl, rfl⟩) (.inl ⟨rfl, rfl, rfl⟩) (.inr ⟨_, _, rfl, by omega⟩) (by omega) (by omega) rfl (by simp <;> omega) (by omega)) (k := ?_)
                                refine WL.callG (d := 174) (f := 50) (args := #[.slice (cutA A cp 1 1) ((List.drop 1 ws).length) (cp - 1)]) (u25fates_c (cp := (cp - 1)) (hs114.adds K) (by simp; omega) (fun y hy => hx y (List.mem_of_mem_drop hy))) (k := fun e_ w115 h_ => ?_)
                                obtain ⟨g116, is117, rfl, ho118, ol119, hq120, hl121, k122⟩ := h_
                                refine ⟨_, rfl, ?_⟩
                                have ol123 := fun i h => Nat.le_trans K.size (ol119 i h)
                                replace hb4 := k122.heap hb4 id
                                replace hb40 := k122.heap hb40 id
                                replace K := K.trans (k122.any _)
                                clear ol119
                                refine WL.store (v := gotV g116.p.kind g116.p.op g116.p.id g116.p.work g116.p.n g116.A g116.p.fs.length g116.cap is117) (i := 0) (cs' := (Value.cells (gotV g116.p.kind g116.p.op g116.p.id g116.p.work g116.p.n g116.A g116.p.fs.length g116.cap is117))) hb4 (k := fun w124 hb125 k126 => ?_)
                                replace hb40 := k126.heap hb40 (Ne.symm n13)
                                replace ho118 := ho118.keeps k126 (fun i hi e => (ho118.offT hb4 (by decide)) (e ▸ hi))
                                replace K := K.trans' k126 (fun i hi e => absurd (e ▸ hi) (Nat.not_lt.2 z6))
                                clear hb4
                                refine WL.nil ?_
                                refine WX.seqN ?_
                                refine WC.ret ?_
                                refine WX.blockR ?_
                                refine WX.seqR ?_
                                refine WX.ret (rs := [.cell 2 53]) [gotV g116.p.kind g116.p.op g116.p.id g116.p.work g116.p.n g116.A g116.p.fs.length g116.cap is117] (gotV g116.p.kind g116.p.op g116.p.id g116.p.work g116.p.n g116.A g116.p.fs.length g116.cap is117) ⟨⟨_, (by kernel_rfl), ldN (T := 53) (i := 0) (m := 16) (l := (Value.cells (gotV g116.p.kind g116.p.op g116.p.id g116.p.work g116.p.n g116.A g116.p.fs.length g116.cap is117)).toList) hb125⟩, trivial⟩ (k := ?_)
                                exact ⟨g116, is117, rfl, ho118, ol123, (by rw [ws_cons (hr49.trans (congrArg some ph113) : ws[0]? = some kCrash)]; exact hq120), (by simp only [List.length_cons, List.length_drop] at hl121; omega), K⟩
                              · have ph113 := of_decide_eq_false h113
                                refine WC.skip ?_
                                refine WX.blockN ?_
                                refine WX.seqN ?_
                                refine WC.seq ?_
                                refine WC.region ?_
                                refine WL.op (d := 175) (gotV 0 GOp.zero 0 0 0 none 0 0 false) (k := ?_)
                                refine WL.store (v := gotV 0 GOp.zero 0 0 0 none 0 0 false) (i := 0) (cs' := (Value.cells (gotV 0 GOp.zero 0 0 0 none 0 0 false))) hb4 (k := fun w127 hb128 k129 => ?_)
                                replace hb40 := k129.heap hb40 (Ne.symm n13)
                                replace K := K.trans' k129 (fun i hi e => absurd (e ▸ hi) (Nat.not_lt.2 z6))
                                clear hb4
                                refine WL.nil ?_
                                refine WX.seqN ?_
                                refine WC.ret ?_
                                refine WX.ret (rs := [.cell 2 53]) [gotV 0 GOp.zero 0 0 0 none 0 0 false] (gotV 0 GOp.zero 0 0 0 none 0 0 false) ⟨⟨_, (by kernel_rfl), ldN (T := 53) (i := 0) (m := 16) (l := (Value.cells (gotV 0 GOp.zero 0 0 0 none 0 0 false)).toList) hb128⟩, trivial⟩ (k := ?_)
                                exact ⟨(⟨⟨0, (⟨0, ⟨0, 0, 0, 0, 0⟩, false, 0, 0, 0⟩ : GOp), 0, 0, 0, []⟩, none, 0⟩ : GCmd), false, rfl, OwAt.nil, (by simp [blk]), (q_other hr49 (fun k_ => by rcases k_ with k_ | k_ | k_ | k_ | k_ | k_ | k_ | k_ <;> first | exact ph77 k_ | exact ph85 k_ | exact ph93 k_ | exact ph97 k_ | exact ph101 k_ | exact ph105 k_ | exact ph109 k_ | exact ph113 k_) (fun k_ => k_.elim ph53 ph57) ph61 ph65 ph73), (by simp), K⟩
    have ph45 := of_decide_eq_false h45
    refine WL.rw (t := 48) (v := .bool false) (congrArg Value.bool h45) (k := ?_)
    refine WL.skip (d := 49) (k := ?_)
    refine WL.skip (d := 50) (k := ?_)
    refine WL.skip (d := 51) (k := ?_)
    refine WL.skip (d := 52) (k := ?_)
    refine WL.op (d := 53) (.bool false) (k := ?_)
    refine WL.op (d := 6) (.bool false) (k := ?_)
    refine WL.nil ?_
    refine WX.seqN ?_
    refine WC.seq ?_
    refine WC.seq ?_
    refine WC.region ?_
    refine WL.op (d := 54) (.slice A ws.length cp) (k := ?_)
    obtain ⟨b130, o131, r132, hr133, hA134, he135⟩ := SlAt.at hA (i := 0) (by omega) (by omega)
    refine WL.rw (t := 54) (v := .slice (some ⟨b130, o131, none⟩) ws.length cp) (congrArg (fun a => Value.slice a ws.length cp) hA134) (k := ?_)
    have wx136 := hx _ (List.mem_of_getElem? hr133)
    refine WL.idx (T := 43) (E := 9) (m := 1) (b := b130) (o := o131) (len := ws.length) (cap := cp) (i := 0) (kk := .i64) (d := 55) (by omega) (by omega) (k := ?_)
    refine WL.rw (t := 54) (v := .slice A ws.length cp) (congrArg (fun a => Value.slice a ws.length cp) (Eq.symm hA134)) (k := ?_)
    refine WL.load (v := .string ⟨(r132).toArray⟩) ((he135.adds K).ld0 (T := 9)) (k := ?_)
    refine WL.nil ?_
    refine WX.seqN ?_
    refine WC.block ?_
    refine WC.seq ?_
    refine WC.seq ?_
    refine WC.region ?_
    refine WL.opE (d := 58) (.bool (ByteArray.toList ⟨(r132).toArray⟩ == ByteArray.toList ⟨([97, 100, 109, 105, 116]).toArray⟩)) (v := .bool (decide (r132 = [97, 100, 109, 105, 116]))) (str_eql _ _) (k := ?_)
    refine WL.op (d := 57) (.bool (decide (r132 = [97, 100, 109, 105, 116]))) (k := ?_)
    refine WL.nil ?_
    refine WX.seqN ?_
    refine WC.cond (b := decide (r132 = [97, 100, 109, 105, 116])) (ht := fun h137 => ?_) (hf := fun h137 => ?_)
    · have ph137 := of_decide_eq_true h137
      refine WC.skip ?_
      refine WX.seqN ?_
      refine WC.rw (t := 57) (v := .bool true) (congrArg Value.bool h137) (k := ?_)
      refine WC.condT (k := ?_)
      refine WC.seq ?_
      refine WC.seq ?_
      refine WC.region ?_
      refine WL.op (d := 60) (.slice A ws.length cp) (k := ?_)
      refine WL.op (d := 61) (.int .i64 (ws.length : Int)) (k := ?_)
      refine WL.op (d := 62) (.bool ((ws.length : Int) != 2)) (k := ?_)
      refine WL.nil ?_
      refine WX.seqN ?_
      refine WC.rw (t := 62) (v := .bool true) (congrArg Value.bool h43) (k := ?_)
      refine WC.condT (k := ?_)
      refine WC.seq ?_
      refine WC.region ?_
      refine WL.op (d := 63) (gotV 0 GOp.zero 0 0 0 none 0 0 false) (k := ?_)
      refine WL.store (v := gotV 0 GOp.zero 0 0 0 none 0 0 false) (i := 0) (cs' := (Value.cells (gotV 0 GOp.zero 0 0 0 none 0 0 false))) hb4 (k := fun w138 hb139 k140 => ?_)
      replace hb40 := k140.heap hb40 (Ne.symm n13)
      replace K := K.trans' k140 (fun i hi e => absurd (e ▸ hi) (Nat.not_lt.2 z6))
      clear hb4
      refine WL.nil ?_
      refine WX.seqN ?_
      refine WC.ret ?_
      refine WX.seqR ?_
      refine WX.blockR ?_
      refine WX.seqR ?_
      refine WX.ret (rs := [.cell 2 53]) [gotV 0 GOp.zero 0 0 0 none 0 0 false] (gotV 0 GOp.zero 0 0 0 none 0 0 false) ⟨⟨_, (by kernel_rfl), ldN (T := 53) (i := 0) (m := 16) (l := (Value.cells (gotV 0 GOp.zero 0 0 0 none 0 0 false)).toList) hb139⟩, trivial⟩ (k := ?_)
      exact ⟨(⟨⟨0, (⟨0, ⟨0, 0, 0, 0, 0⟩, false, 0, 0, 0⟩ : GOp), 0, 0, 0, []⟩, none, 0⟩ : GCmd), false, rfl, OwAt.nil, (by simp [blk]), (q_task_no hr133 (.inl ph137) (by omega)), (by simp), K⟩
    · have ph137 := of_decide_eq_false h137
      refine WC.region ?_
      refine WL.opE (d := 59) (.bool (ByteArray.toList ⟨(r132).toArray⟩ == ByteArray.toList ⟨([115, 101, 114, 118, 101]).toArray⟩)) (v := .bool (decide (r132 = [115, 101, 114, 118, 101]))) (str_eql _ _) (k := ?_)
      refine WL.op (d := 57) (.bool (decide (r132 = [115, 101, 114, 118, 101]))) (k := ?_)
      refine WL.nil ?_
      refine WX.seqN ?_
      refine WC.cond (b := decide (r132 = [115, 101, 114, 118, 101])) (ht := fun h141 => ?_) (hf := fun h141 => ?_)
      · have ph141 := of_decide_eq_true h141
        refine WC.seq ?_
        refine WC.seq ?_
        refine WC.region ?_
        refine WL.op (d := 60) (.slice A ws.length cp) (k := ?_)
        refine WL.op (d := 61) (.int .i64 (ws.length : Int)) (k := ?_)
        refine WL.op (d := 62) (.bool ((ws.length : Int) != 2)) (k := ?_)
        refine WL.nil ?_
        refine WX.seqN ?_
        refine WC.rw (t := 62) (v := .bool true) (congrArg Value.bool h43) (k := ?_)
        refine WC.condT (k := ?_)
        refine WC.seq ?_
        refine WC.region ?_
        refine WL.op (d := 63) (gotV 0 GOp.zero 0 0 0 none 0 0 false) (k := ?_)
        refine WL.store (v := gotV 0 GOp.zero 0 0 0 none 0 0 false) (i := 0) (cs' := (Value.cells (gotV 0 GOp.zero 0 0 0 none 0 0 false))) hb4 (k := fun w142 hb143 k144 => ?_)
        replace hb40 := k144.heap hb40 (Ne.symm n13)
        replace K := K.trans' k144 (fun i hi e => absurd (e ▸ hi) (Nat.not_lt.2 z6))
        clear hb4
        refine WL.nil ?_
        refine WX.seqN ?_
        refine WC.ret ?_
        refine WX.seqR ?_
        refine WX.blockR ?_
        refine WX.seqR ?_
        refine WX.ret (rs := [.cell 2 53]) [gotV 0 GOp.zero 0 0 0 none 0 0 false] (gotV 0 GOp.zero 0 0 0 none 0 0 false) ⟨⟨_, (by kernel_rfl), ldN (T := 53) (i := 0) (m := 16) (l := (Value.cells (gotV 0 GOp.zero 0 0 0 none 0 0 false)).toList) hb143⟩, trivial⟩ (k := ?_)
        exact ⟨(⟨⟨0, (⟨0, ⟨0, 0, 0, 0, 0⟩, false, 0, 0, 0⟩ : GOp), 0, 0, 0, []⟩, none, 0⟩ : GCmd), false, rfl, OwAt.nil, (by simp [blk]), (q_task_no hr133 (.inr ph141) (by omega)), (by simp), K⟩
      · have ph141 := of_decide_eq_false h141
        refine WC.seq ?_
        refine WC.region ?_
        refine WL.opE (d := 81) (.bool (ByteArray.toList ⟨(r132).toArray⟩ == ByteArray.toList ⟨([114, 101, 109, 111, 118, 101]).toArray⟩)) (v := .bool (decide (r132 = [114, 101, 109, 111, 118, 101]))) (str_eql _ _) (k := ?_)
        refine WL.op (d := 80) (.bool (decide (r132 = [114, 101, 109, 111, 118, 101]))) (k := ?_)
        refine WL.nil ?_
        refine WX.seqN ?_
        refine WC.cond (b := decide (r132 = [114, 101, 109, 111, 118, 101])) (ht := fun h145 => ?_) (hf := fun h145 => ?_)
        · have ph145 := of_decide_eq_true h145
          refine WC.seq ?_
          refine WC.region ?_
          refine WL.op (d := 82) (.slice (some ⟨b7, 0, none⟩) 2 2) (k := ?_)
          refine WL.op (d := 83) (.pointer (some ⟨b7, 0, none⟩)) (k := ?_)
          refine WL.load (v := .int .i64 (numR r18)) (ld1 (T := 2) (i := 0) hb40) (k := ?_)
          refine WL.op (d := 85) (.agg #[.int .i64 2, .int .i64 0, .int .i64 0, .int .i64 0, .int .i64 0, .int .i64 0, .bool false, .int .i64 (numR r18), .int .i64 0, .int .i64 0]) (k := ?_)
          refine WL.op (d := 86) (.agg #[.int .i64 1, .int .i64 2, .int .i64 0, .int .i64 0, .int .i64 0, .int .i64 0, .int .i64 0, .bool false, .int .i64 (numR r18), .int .i64 0, .int .i64 0, .int .i64 0, .int .i64 0, .int .i64 0, .slice none 0 0]) (k := ?_)
          refine WL.op (d := 87) (.bool false) (k := ?_)
          refine WL.op (d := 88) (gotV 1 (⟨2, ⟨0, 0, 0, 0, 0⟩, false, (numR r18), 0, 0⟩ : GOp) 0 0 0 none 0 0 false) (k := ?_)
          refine WL.store (v := gotV 1 (⟨2, ⟨0, 0, 0, 0, 0⟩, false, (numR r18), 0, 0⟩ : GOp) 0 0 0 none 0 0 false) (i := 0) (cs' := (Value.cells (gotV 1 (⟨2, ⟨0, 0, 0, 0, 0⟩, false, (numR r18), 0, 0⟩ : GOp) 0 0 0 none 0 0 false))) hb4 (k := fun w146 hb147 k148 => ?_)
          replace hb40 := k148.heap hb40 (Ne.symm n13)
          replace K := K.trans' k148 (fun i hi e => absurd (e ▸ hi) (Nat.not_lt.2 z6))
          clear hb4
          refine WL.nil ?_
          refine WX.seqN ?_
          refine WC.ret ?_
          refine WX.blockR ?_
          refine WX.seqR ?_
          refine WX.ret (rs := [.cell 2 53]) [gotV 1 (⟨2, ⟨0, 0, 0, 0, 0⟩, false, (numR r18), 0, 0⟩ : GOp) 0 0 0 none 0 0 false] (gotV 1 (⟨2, ⟨0, 0, 0, 0, 0⟩, false, (numR r18), 0, 0⟩ : GOp) 0 0 0 none 0 0 false) ⟨⟨_, (by kernel_rfl), ldN (T := 53) (i := 0) (m := 16) (l := (Value.cells (gotV 1 (⟨2, ⟨0, 0, 0, 0, 0⟩, false, (numR r18), 0, 0⟩ : GOp) 0 0 0 none 0 0 false)).toList) hb147⟩, trivial⟩ (k := ?_)
          exact ⟨(⟨⟨1, (⟨2, ⟨0, 0, 0, 0, 0⟩, false, (numR r18), 0, 0⟩ : GOp), 0, 0, 0, []⟩, none, 0⟩ : GCmd), false, rfl, OwAt.nil, (by simp [blk]), (q_one_no (G := gRemove) (kw := kRemove) (hr133.trans (congrArg some ph145)) qb_remove (by omega)), (by simp), K⟩
        · have ph145 := of_decide_eq_false h145
          refine WC.seq ?_
          refine WC.region ?_
          refine WL.opE (d := 90) (.bool (ByteArray.toList ⟨(r132).toArray⟩ == ByteArray.toList ⟨([114, 101, 115, 105, 122, 101]).toArray⟩)) (v := .bool (decide (r132 = [114, 101, 115, 105, 122, 101]))) (str_eql _ _) (k := ?_)
          refine WL.op (d := 89) (.bool (decide (r132 = [114, 101, 115, 105, 122, 101]))) (k := ?_)
          refine WL.nil ?_
          refine WX.seqN ?_
          refine WC.cond (b := decide (r132 = [114, 101, 115, 105, 122, 101])) (ht := fun h149 => ?_) (hf := fun h149 => ?_)
          · have ph149 := of_decide_eq_true h149
            refine WC.seq ?_
            refine WC.mixed (fun _ => False) 10 (k := fun w150 k151 => ?_)
            replace hb4 := k151.heap hb4 id
            replace hb40 := k151.heap hb40 id
            replace K := K.trans (k151.any _)
            have KC := Keeps.refl (fun _ => False) w150
            have bh152 := hb4
            have bh153 := hb40
            have Kb := K
            refine WA.quiet 0 (d := 91) (.slice (some ⟨b7, 0, none⟩) 2 2) KC (hi := rfl) (k := ?_)
            refine WA.quiet 1 (d := 92) (.pointer (some ⟨b7, 0, none⟩)) KC (hi := rfl) (k := ?_)
            refine WA.quietR 2 (d := 93) (.int .i64 (numR r18)) KC (exec_load (fun w_ k_ => ld1 (T := 2) (i := 0) (k_.heap bh153 id))) (hi := rfl) (k := ?_)
            refine WA.quiet 3 (d := 94) (.slice (some ⟨b7, 0, none⟩) 2 2) KC (hi := rfl) (k := ?_)
            refine WA.quiet 4 (d := 95) (.pointer (some ⟨b7, 1, none⟩)) KC (hi := rfl) (k := ?_)
            refine WA.quietR 5 (d := 96) (.int .i64 (numR r31)) KC (exec_load (fun w_ k_ => ld1 (T := 2) (i := 1) (k_.heap bh153 id))) (hi := rfl) (k := ?_)
            refine WA.quiet 6 (d := 97) (.agg #[.int .i64 3, .int .i64 0, .int .i64 0, .int .i64 0, .int .i64 0, .int .i64 0, .bool false, .int .i64 (numR r18), .int .i64 (numR r31), .int .i64 0]) KC (hi := rfl) (k := ?_)
            refine WA.quiet 7 (d := 98) (.agg #[.int .i64 1, .int .i64 3, .int .i64 0, .int .i64 0, .int .i64 0, .int .i64 0, .int .i64 0, .bool false, .int .i64 (numR r18), .int .i64 (numR r31), .int .i64 0, .int .i64 0, .int .i64 0, .int .i64 0, .slice none 0 0]) KC (hi := rfl) (k := ?_)
            refine WA.quiet 8 (d := 99) (.bool false) KC (hi := rfl) (k := ?_)
            refine WA.quiet 9 (d := 100) (gotV 1 (⟨3, ⟨0, 0, 0, 0, 0⟩, false, (numR r18), (numR r31), 0⟩ : GOp) 0 0 0 none 0 0 false) KC (hi := rfl) (k := ?_)
            refine WA.step 10 (hi := rfl) (k := ?_)
            refine WL.store (v := gotV 1 (⟨3, ⟨0, 0, 0, 0, 0⟩, false, (numR r18), (numR r31), 0⟩ : GOp) 0 0 0 none 0 0 false) (i := 0) (cs' := (Value.cells (gotV 1 (⟨3, ⟨0, 0, 0, 0, 0⟩, false, (numR r18), (numR r31), 0⟩ : GOp) 0 0 0 none 0 0 false))) hb4 (k := fun w154 hb155 k156 => ?_)
            replace hb40 := k156.heap hb40 (Ne.symm n13)
            replace K := K.trans' k156 (fun i hi e => absurd (e ▸ hi) (Nat.not_lt.2 z6))
            clear hb4
            refine WL.nil ?_
            refine WX.nxtL ?_
            refine WA.done (k := ?_)
            clear KC
            refine WX.seqN ?_
            refine WC.ret ?_
            refine WX.blockR ?_
            refine WX.seqR ?_
            refine WX.ret (rs := [.cell 2 53]) [gotV 1 (⟨3, ⟨0, 0, 0, 0, 0⟩, false, (numR r18), (numR r31), 0⟩ : GOp) 0 0 0 none 0 0 false] (gotV 1 (⟨3, ⟨0, 0, 0, 0, 0⟩, false, (numR r18), (numR r31), 0⟩ : GOp) 0 0 0 none 0 0 false) ⟨⟨_, (by kernel_rfl), ldN (T := 53) (i := 0) (m := 16) (l := (Value.cells (gotV 1 (⟨3, ⟨0, 0, 0, 0, 0⟩, false, (numR r18), (numR r31), 0⟩ : GOp) 0 0 0 none 0 0 false)).toList) hb155⟩, trivial⟩ (k := ?_)
            exact ⟨(⟨⟨1, (⟨3, ⟨0, 0, 0, 0, 0⟩, false, (numR r18), (numR r31), 0⟩ : GOp), 0, 0, 0, []⟩, none, 0⟩ : GCmd), false, rfl, OwAt.nil, (by simp [blk]), ((q_two (G := gResize) (kw := kResize) (hr133.trans (congrArg some ph149)) qb_resize (by omega) hr19 hr32).2 (fun k_ => ph45 (numR_pos.2 k_)) _), (by simp), K⟩
          · have ph149 := of_decide_eq_false h149
            refine WC.seq ?_
            refine WC.region ?_
            refine WL.opE (d := 102) (.bool (ByteArray.toList ⟨(r132).toArray⟩ == ByteArray.toList ⟨([109, 111, 100, 101]).toArray⟩)) (v := .bool (decide (r132 = [109, 111, 100, 101]))) (str_eql _ _) (k := ?_)
            refine WL.op (d := 101) (.bool (decide (r132 = [109, 111, 100, 101]))) (k := ?_)
            refine WL.nil ?_
            refine WX.seqN ?_
            refine WC.cond (b := decide (r132 = [109, 111, 100, 101])) (ht := fun h157 => ?_) (hf := fun h157 => ?_)
            · have ph157 := of_decide_eq_true h157
              refine WC.seq ?_
              refine WC.region ?_
              refine WL.op (d := 103) (.slice (some ⟨b7, 0, none⟩) 2 2) (k := ?_)
              refine WL.op (d := 104) (.pointer (some ⟨b7, 0, none⟩)) (k := ?_)
              refine WL.load (v := .int .i64 (numR r18)) (ld1 (T := 2) (i := 0) hb40) (k := ?_)
              refine WL.op (d := 106) (.agg #[.int .i64 4, .int .i64 0, .int .i64 0, .int .i64 0, .int .i64 0, .int .i64 0, .bool false, .int .i64 0, .int .i64 0, .int .i64 (numR r18)]) (k := ?_)
              refine WL.op (d := 107) (.agg #[.int .i64 1, .int .i64 4, .int .i64 0, .int .i64 0, .int .i64 0, .int .i64 0, .int .i64 0, .bool false, .int .i64 0, .int .i64 0, .int .i64 (numR r18), .int .i64 0, .int .i64 0, .int .i64 0, .slice none 0 0]) (k := ?_)
              refine WL.op (d := 108) (.bool false) (k := ?_)
              refine WL.op (d := 109) (gotV 1 (⟨4, ⟨0, 0, 0, 0, 0⟩, false, 0, 0, (numR r18)⟩ : GOp) 0 0 0 none 0 0 false) (k := ?_)
              refine WL.store (v := gotV 1 (⟨4, ⟨0, 0, 0, 0, 0⟩, false, 0, 0, (numR r18)⟩ : GOp) 0 0 0 none 0 0 false) (i := 0) (cs' := (Value.cells (gotV 1 (⟨4, ⟨0, 0, 0, 0, 0⟩, false, 0, 0, (numR r18)⟩ : GOp) 0 0 0 none 0 0 false))) hb4 (k := fun w158 hb159 k160 => ?_)
              replace hb40 := k160.heap hb40 (Ne.symm n13)
              replace K := K.trans' k160 (fun i hi e => absurd (e ▸ hi) (Nat.not_lt.2 z6))
              clear hb4
              refine WL.nil ?_
              refine WX.seqN ?_
              refine WC.ret ?_
              refine WX.blockR ?_
              refine WX.seqR ?_
              refine WX.ret (rs := [.cell 2 53]) [gotV 1 (⟨4, ⟨0, 0, 0, 0, 0⟩, false, 0, 0, (numR r18)⟩ : GOp) 0 0 0 none 0 0 false] (gotV 1 (⟨4, ⟨0, 0, 0, 0, 0⟩, false, 0, 0, (numR r18)⟩ : GOp) 0 0 0 none 0 0 false) ⟨⟨_, (by kernel_rfl), ldN (T := 53) (i := 0) (m := 16) (l := (Value.cells (gotV 1 (⟨4, ⟨0, 0, 0, 0, 0⟩, false, 0, 0, (numR r18)⟩ : GOp) 0 0 0 none 0 0 false)).toList) hb159⟩, trivial⟩ (k := ?_)
              exact ⟨(⟨⟨1, (⟨4, ⟨0, 0, 0, 0, 0⟩, false, 0, 0, (numR r18)⟩ : GOp), 0, 0, 0, []⟩, none, 0⟩ : GCmd), false, rfl, OwAt.nil, (by simp [blk]), (q_one_no (G := gMode) (kw := kMode) (hr133.trans (congrArg some ph157)) qb_mode (by omega)), (by simp), K⟩
            · have ph157 := of_decide_eq_false h157
              refine WC.seq ?_
              refine WC.region ?_
              refine WL.opE (d := 111) (.bool (ByteArray.toList ⟨(r132).toArray⟩ == ByteArray.toList ⟨([114, 101, 108, 101, 97, 115, 101]).toArray⟩)) (v := .bool (decide (r132 = [114, 101, 108, 101, 97, 115, 101]))) (str_eql _ _) (k := ?_)
              refine WL.op (d := 110) (.bool (decide (r132 = [114, 101, 108, 101, 97, 115, 101]))) (k := ?_)
              refine WL.nil ?_
              refine WX.seqN ?_
              refine WC.cond (b := decide (r132 = [114, 101, 108, 101, 97, 115, 101])) (ht := fun h161 => ?_) (hf := fun h161 => ?_)
              · have ph161 := of_decide_eq_true h161
                refine WC.seq ?_
                refine WC.mixed (fun _ => False) 9 (k := fun w162 k163 => ?_)
                replace hb4 := k163.heap hb4 id
                replace hb40 := k163.heap hb40 id
                replace K := K.trans (k163.any _)
                have KC := Keeps.refl (fun _ => False) w162
                have bh164 := hb4
                have bh165 := hb40
                have Kb := K
                refine WA.quiet 0 (d := 112) (.slice (some ⟨b7, 0, none⟩) 2 2) KC (hi := rfl) (k := ?_)
                refine WA.quiet 1 (d := 113) (.pointer (some ⟨b7, 0, none⟩)) KC (hi := rfl) (k := ?_)
                refine WA.quietR 2 (d := 114) (.int .i64 (numR r18)) KC (exec_load (fun w_ k_ => ld1 (T := 2) (i := 0) (k_.heap bh165 id))) (hi := rfl) (k := ?_)
                refine WA.quiet 3 (d := 115) (.slice (some ⟨b7, 0, none⟩) 2 2) KC (hi := rfl) (k := ?_)
                refine WA.quiet 4 (d := 116) (.pointer (some ⟨b7, 1, none⟩)) KC (hi := rfl) (k := ?_)
                refine WA.quietR 5 (d := 117) (.int .i64 (numR r31)) KC (exec_load (fun w_ k_ => ld1 (T := 2) (i := 1) (k_.heap bh165 id))) (hi := rfl) (k := ?_)
                refine WA.quiet 6 (d := 118) (.agg #[.int .i64 2, .int .i64 0, .int .i64 0, .int .i64 0, .int .i64 0, .int .i64 0, .int .i64 0, .bool false, .int .i64 0, .int .i64 0, .int .i64 0, .int .i64 (numR r18), .int .i64 (numR r31), .int .i64 0, .slice none 0 0]) KC (hi := rfl) (k := ?_)
                refine WA.quiet 7 (d := 119) (.bool false) KC (hi := rfl) (k := ?_)
                refine WA.quiet 8 (d := 120) (gotV 2 GOp.zero (numR r18) (numR r31) 0 none 0 0 false) KC (hi := rfl) (k := ?_)
                refine WA.step 9 (hi := rfl) (k := ?_)
                refine WL.store (v := gotV 2 GOp.zero (numR r18) (numR r31) 0 none 0 0 false) (i := 0) (cs' := (Value.cells (gotV 2 GOp.zero (numR r18) (numR r31) 0 none 0 0 false))) hb4 (k := fun w166 hb167 k168 => ?_)
                replace hb40 := k168.heap hb40 (Ne.symm n13)
                replace K := K.trans' k168 (fun i hi e => absurd (e ▸ hi) (Nat.not_lt.2 z6))
                clear hb4
                refine WL.nil ?_
                refine WX.nxtL ?_
                refine WA.done (k := ?_)
                clear KC
                refine WX.seqN ?_
                refine WC.ret ?_
                refine WX.blockR ?_
                refine WX.seqR ?_
                refine WX.ret (rs := [.cell 2 53]) [gotV 2 GOp.zero (numR r18) (numR r31) 0 none 0 0 false] (gotV 2 GOp.zero (numR r18) (numR r31) 0 none 0 0 false) ⟨⟨_, (by kernel_rfl), ldN (T := 53) (i := 0) (m := 16) (l := (Value.cells (gotV 2 GOp.zero (numR r18) (numR r31) 0 none 0 0 false)).toList) hb167⟩, trivial⟩ (k := ?_)
                exact ⟨(⟨⟨2, (⟨0, ⟨0, 0, 0, 0, 0⟩, false, 0, 0, 0⟩ : GOp), (numR r18), (numR r31), 0, []⟩, none, 0⟩ : GCmd), false, rfl, OwAt.nil, (by simp [blk]), ((q_two (G := (gWrk 2)) (kw := kRelease) (hr133.trans (congrArg some ph161)) (qb_wrk (.inl ⟨rfl, rfl⟩)) (by omega) hr19 hr32).2 (fun k_ => ph45 (numR_pos.2 k_)) _), (by simp), K⟩
              · have ph161 := of_decide_eq_false h161
                refine WC.seq ?_
                refine WC.region ?_
                refine WL.opE (d := 122) (.bool (ByteArray.toList ⟨(r132).toArray⟩ == ByteArray.toList ⟨([97, 115, 107]).toArray⟩)) (v := .bool (decide (r132 = [97, 115, 107]))) (str_eql _ _) (k := ?_)
                refine WL.op (d := 121) (.bool (decide (r132 = [97, 115, 107]))) (k := ?_)
                refine WL.nil ?_
                refine WX.seqN ?_
                refine WC.cond (b := decide (r132 = [97, 115, 107])) (ht := fun h169 => ?_) (hf := fun h169 => ?_)
                · have ph169 := of_decide_eq_true h169
                  refine WC.seq ?_
                  refine WC.mixed (fun _ => False) 9 (k := fun w170 k171 => ?_)
                  replace hb4 := k171.heap hb4 id
                  replace hb40 := k171.heap hb40 id
                  replace K := K.trans (k171.any _)
                  have KC := Keeps.refl (fun _ => False) w170
                  have bh172 := hb4
                  have bh173 := hb40
                  have Kb := K
                  refine WA.quiet 0 (d := 123) (.slice (some ⟨b7, 0, none⟩) 2 2) KC (hi := rfl) (k := ?_)
                  refine WA.quiet 1 (d := 124) (.pointer (some ⟨b7, 0, none⟩)) KC (hi := rfl) (k := ?_)
                  refine WA.quietR 2 (d := 125) (.int .i64 (numR r18)) KC (exec_load (fun w_ k_ => ld1 (T := 2) (i := 0) (k_.heap bh173 id))) (hi := rfl) (k := ?_)
                  refine WA.quiet 3 (d := 126) (.slice (some ⟨b7, 0, none⟩) 2 2) KC (hi := rfl) (k := ?_)
                  refine WA.quiet 4 (d := 127) (.pointer (some ⟨b7, 1, none⟩)) KC (hi := rfl) (k := ?_)
                  refine WA.quietR 5 (d := 128) (.int .i64 (numR r31)) KC (exec_load (fun w_ k_ => ld1 (T := 2) (i := 1) (k_.heap bh173 id))) (hi := rfl) (k := ?_)
                  refine WA.quiet 6 (d := 129) (.agg #[.int .i64 3, .int .i64 0, .int .i64 0, .int .i64 0, .int .i64 0, .int .i64 0, .int .i64 0, .bool false, .int .i64 0, .int .i64 0, .int .i64 0, .int .i64 (numR r18), .int .i64 (numR r31), .int .i64 0, .slice none 0 0]) KC (hi := rfl) (k := ?_)
                  refine WA.quiet 7 (d := 130) (.bool false) KC (hi := rfl) (k := ?_)
                  refine WA.quiet 8 (d := 131) (gotV 3 GOp.zero (numR r18) (numR r31) 0 none 0 0 false) KC (hi := rfl) (k := ?_)
                  refine WA.step 9 (hi := rfl) (k := ?_)
                  refine WL.store (v := gotV 3 GOp.zero (numR r18) (numR r31) 0 none 0 0 false) (i := 0) (cs' := (Value.cells (gotV 3 GOp.zero (numR r18) (numR r31) 0 none 0 0 false))) hb4 (k := fun w174 hb175 k176 => ?_)
                  replace hb40 := k176.heap hb40 (Ne.symm n13)
                  replace K := K.trans' k176 (fun i hi e => absurd (e ▸ hi) (Nat.not_lt.2 z6))
                  clear hb4
                  refine WL.nil ?_
                  refine WX.nxtL ?_
                  refine WA.done (k := ?_)
                  clear KC
                  refine WX.seqN ?_
                  refine WC.ret ?_
                  refine WX.blockR ?_
                  refine WX.seqR ?_
                  refine WX.ret (rs := [.cell 2 53]) [gotV 3 GOp.zero (numR r18) (numR r31) 0 none 0 0 false] (gotV 3 GOp.zero (numR r18) (numR r31) 0 none 0 0 false) ⟨⟨_, (by kernel_rfl), ldN (T := 53) (i := 0) (m := 16) (l := (Value.cells (gotV 3 GOp.zero (numR r18) (numR r31) 0 none 0 0 false)).toList) hb175⟩, trivial⟩ (k := ?_)
                  exact ⟨(⟨⟨3, (⟨0, ⟨0, 0, 0, 0, 0⟩, false, 0, 0, 0⟩ : GOp), (numR r18), (numR r31), 0, []⟩, none, 0⟩ : GCmd), false, rfl, OwAt.nil, (by simp [blk]), ((q_two (G := (gWrk 3)) (kw := kAsk) (hr133.trans (congrArg some ph169)) (qb_wrk (.inr ⟨rfl, rfl⟩)) (by omega) hr19 hr32).2 (fun k_ => ph45 (numR_pos.2 k_)) _), (by simp), K⟩
                · have ph169 := of_decide_eq_false h169
                  refine WC.seq ?_
                  refine WC.region ?_
                  refine WL.opE (d := 133) (.bool (ByteArray.toList ⟨(r132).toArray⟩ == ByteArray.toList ⟨([116, 105, 99, 107]).toArray⟩)) (v := .bool (decide (r132 = [116, 105, 99, 107]))) (str_eql _ _) (k := ?_)
                  refine WL.op (d := 132) (.bool (decide (r132 = [116, 105, 99, 107]))) (k := ?_)
                  refine WL.nil ?_
                  refine WX.seqN ?_
                  refine WC.cond (b := decide (r132 = [116, 105, 99, 107])) (ht := fun h177 => ?_) (hf := fun h177 => ?_)
                  · have ph177 := of_decide_eq_true h177
                    refine WC.seq ?_
                    refine WC.region ?_
                    refine WL.op (d := 134) (.slice (some ⟨b7, 0, none⟩) 2 2) (k := ?_)
                    refine WL.op (d := 135) (.pointer (some ⟨b7, 0, none⟩)) (k := ?_)
                    refine WL.load (v := .int .i64 (numR r18)) (ld1 (T := 2) (i := 0) hb40) (k := ?_)
                    refine WL.op (d := 137) (.agg #[.int .i64 4, .int .i64 0, .int .i64 0, .int .i64 0, .int .i64 0, .int .i64 0, .int .i64 0, .bool false, .int .i64 0, .int .i64 0, .int .i64 0, .int .i64 0, .int .i64 0, .int .i64 (numR r18), .slice none 0 0]) (k := ?_)
                    refine WL.op (d := 138) (.bool false) (k := ?_)
                    refine WL.op (d := 139) (gotV 4 GOp.zero 0 0 (numR r18) none 0 0 false) (k := ?_)
                    refine WL.store (v := gotV 4 GOp.zero 0 0 (numR r18) none 0 0 false) (i := 0) (cs' := (Value.cells (gotV 4 GOp.zero 0 0 (numR r18) none 0 0 false))) hb4 (k := fun w178 hb179 k180 => ?_)
                    replace hb40 := k180.heap hb40 (Ne.symm n13)
                    replace K := K.trans' k180 (fun i hi e => absurd (e ▸ hi) (Nat.not_lt.2 z6))
                    clear hb4
                    refine WL.nil ?_
                    refine WX.seqN ?_
                    refine WC.ret ?_
                    refine WX.blockR ?_
                    refine WX.seqR ?_
                    refine WX.ret (rs := [.cell 2 53]) [gotV 4 GOp.zero 0 0 (numR r18) none 0 0 false] (gotV 4 GOp.zero 0 0 (numR r18) none 0 0 false) ⟨⟨_, (by kernel_rfl), ldN (T := 53) (i := 0) (m := 16) (l := (Value.cells (gotV 4 GOp.zero 0 0 (numR r18) none 0 0 false)).toList) hb179⟩, trivial⟩ (k := ?_)
                    exact ⟨(⟨⟨4, (⟨0, ⟨0, 0, 0, 0, 0⟩, false, 0, 0, 0⟩ : GOp), 0, 0, (numR r18), []⟩, none, 0⟩ : GCmd), false, rfl, OwAt.nil, (by simp [blk]), (q_one_no (G := gTick) (kw := kTick) (hr133.trans (congrArg some ph177)) qb_tick (by omega)), (by simp), K⟩
                  · have ph177 := of_decide_eq_false h177
                    refine WC.seq ?_
                    refine WC.region ?_
                    refine WL.opE (d := 141) (.bool (ByteArray.toList ⟨(r132).toArray⟩ == ByteArray.toList ⟨([102, 97, 105, 108]).toArray⟩)) (v := .bool (decide (r132 = [102, 97, 105, 108]))) (str_eql _ _) (k := ?_)
                    refine WL.op (d := 140) (.bool (decide (r132 = [102, 97, 105, 108]))) (k := ?_)
                    refine WL.nil ?_
                    refine WX.seqN ?_
                    refine WC.cond (b := decide (r132 = [102, 97, 105, 108])) (ht := fun h181 => ?_) (hf := fun h181 => ?_)
                    · have ph181 := of_decide_eq_true h181
                      refine WC.seq ?_
                      refine WC.region ?_
                      refine WL.op (d := 142) (.slice (some ⟨b7, 0, none⟩) 2 2) (k := ?_)
                      refine WL.op (d := 143) (.pointer (some ⟨b7, 0, none⟩)) (k := ?_)
                      refine WL.load (v := .int .i64 (numR r18)) (ld1 (T := 2) (i := 0) hb40) (k := ?_)
                      refine WL.op (d := 145) (.agg #[.int .i64 7, .int .i64 0, .int .i64 0, .int .i64 0, .int .i64 0, .int .i64 0, .int .i64 0, .bool false, .int .i64 0, .int .i64 0, .int .i64 0, .int .i64 0, .int .i64 0, .int .i64 (numR r18), .slice none 0 0]) (k := ?_)
                      refine WL.op (d := 146) (.bool false) (k := ?_)
                      refine WL.op (d := 147) (gotV 7 GOp.zero 0 0 (numR r18) none 0 0 false) (k := ?_)
                      refine WL.store (v := gotV 7 GOp.zero 0 0 (numR r18) none 0 0 false) (i := 0) (cs' := (Value.cells (gotV 7 GOp.zero 0 0 (numR r18) none 0 0 false))) hb4 (k := fun w182 hb183 k184 => ?_)
                      replace hb40 := k184.heap hb40 (Ne.symm n13)
                      replace K := K.trans' k184 (fun i hi e => absurd (e ▸ hi) (Nat.not_lt.2 z6))
                      clear hb4
                      refine WL.nil ?_
                      refine WX.seqN ?_
                      refine WC.ret ?_
                      refine WX.blockR ?_
                      refine WX.seqR ?_
                      refine WX.ret (rs := [.cell 2 53]) [gotV 7 GOp.zero 0 0 (numR r18) none 0 0 false] (gotV 7 GOp.zero 0 0 (numR r18) none 0 0 false) ⟨⟨_, (by kernel_rfl), ldN (T := 53) (i := 0) (m := 16) (l := (Value.cells (gotV 7 GOp.zero 0 0 (numR r18) none 0 0 false)).toList) hb183⟩, trivial⟩ (k := ?_)
                      exact ⟨(⟨⟨7, (⟨0, ⟨0, 0, 0, 0, 0⟩, false, 0, 0, 0⟩ : GOp), 0, 0, (numR r18), []⟩, none, 0⟩ : GCmd), false, rfl, OwAt.nil, (by simp [blk]), (q_one_no (G := gFail) (kw := kFail) (hr133.trans (congrArg some ph181)) qb_fail (by omega)), (by simp), K⟩
                    · have ph181 := of_decide_eq_false h181
                      refine WC.seq ?_
                      refine WC.region ?_
                      refine WL.opE (d := 149) (.bool (ByteArray.toList ⟨(r132).toArray⟩ == ByteArray.toList ⟨([113, 117, 101, 114, 121]).toArray⟩)) (v := .bool (decide (r132 = [113, 117, 101, 114, 121]))) (str_eql _ _) (k := ?_)
                      refine WL.op (d := 148) (.bool (decide (r132 = [113, 117, 101, 114, 121]))) (k := ?_)
                      refine WL.nil ?_
                      refine WX.seqN ?_
                      refine WC.cond (b := decide (r132 = [113, 117, 101, 114, 121])) (ht := fun h185 => ?_) (hf := fun h185 => ?_)
                      · have ph185 := of_decide_eq_true h185
                        refine WC.seq ?_
                        refine WC.region ?_
                        refine WL.op (d := 150) (.slice (some ⟨b7, 0, none⟩) 2 2) (k := ?_)
                        refine WL.op (d := 151) (.pointer (some ⟨b7, 0, none⟩)) (k := ?_)
                        refine WL.load (v := .int .i64 (numR r18)) (ld1 (T := 2) (i := 0) hb40) (k := ?_)
                        refine WL.op (d := 153) (.agg #[.int .i64 5, .int .i64 0, .int .i64 0, .int .i64 0, .int .i64 0, .int .i64 0, .int .i64 0, .bool false, .int .i64 0, .int .i64 0, .int .i64 0, .int .i64 (numR r18), .int .i64 0, .int .i64 0, .slice none 0 0]) (k := ?_)
                        refine WL.op (d := 154) (.bool false) (k := ?_)
                        refine WL.op (d := 155) (gotV 5 GOp.zero (numR r18) 0 0 none 0 0 false) (k := ?_)
                        refine WL.store (v := gotV 5 GOp.zero (numR r18) 0 0 none 0 0 false) (i := 0) (cs' := (Value.cells (gotV 5 GOp.zero (numR r18) 0 0 none 0 0 false))) hb4 (k := fun w186 hb187 k188 => ?_)
                        replace hb40 := k188.heap hb40 (Ne.symm n13)
                        replace K := K.trans' k188 (fun i hi e => absurd (e ▸ hi) (Nat.not_lt.2 z6))
                        clear hb4
                        refine WL.nil ?_
                        refine WX.seqN ?_
                        refine WC.ret ?_
                        refine WX.blockR ?_
                        refine WX.seqR ?_
                        refine WX.ret (rs := [.cell 2 53]) [gotV 5 GOp.zero (numR r18) 0 0 none 0 0 false] (gotV 5 GOp.zero (numR r18) 0 0 none 0 0 false) ⟨⟨_, (by kernel_rfl), ldN (T := 53) (i := 0) (m := 16) (l := (Value.cells (gotV 5 GOp.zero (numR r18) 0 0 none 0 0 false)).toList) hb187⟩, trivial⟩ (k := ?_)
                        exact ⟨(⟨⟨5, (⟨0, ⟨0, 0, 0, 0, 0⟩, false, 0, 0, 0⟩ : GOp), (numR r18), 0, 0, []⟩, none, 0⟩ : GCmd), false, rfl, OwAt.nil, (by simp [blk]), (q_one_no (G := gQuery) (kw := kQuery) (hr133.trans (congrArg some ph185)) qb_query (by omega)), (by simp), K⟩
                      · have ph185 := of_decide_eq_false h185
                        refine WC.seq ?_
                        refine WC.region ?_
                        refine WL.opE (d := 157) (.bool (ByteArray.toList ⟨(r132).toArray⟩ == ByteArray.toList ⟨([115, 110, 97, 112, 115, 104, 111, 116]).toArray⟩)) (v := .bool (decide (r132 = [115, 110, 97, 112, 115, 104, 111, 116]))) (str_eql _ _) (k := ?_)
                        refine WL.op (d := 156) (.bool (decide (r132 = [115, 110, 97, 112, 115, 104, 111, 116]))) (k := ?_)
                        refine WL.nil ?_
                        refine WX.seqN ?_
                        refine WC.cond (b := decide (r132 = [115, 110, 97, 112, 115, 104, 111, 116])) (ht := fun h189 => ?_) (hf := fun h189 => ?_)
                        · have ph189 := of_decide_eq_true h189
                          refine WC.seq ?_
                          refine WC.region ?_
                          refine WL.op (d := 158) (.agg #[.int .i64 6, .int .i64 0, .int .i64 0, .int .i64 0, .int .i64 0, .int .i64 0, .int .i64 0, .bool false, .int .i64 0, .int .i64 0, .int .i64 0, .int .i64 0, .int .i64 0, .int .i64 0, .slice none 0 0]) (k := ?_)
                          refine WL.op (d := 159) (.slice A ws.length cp) (k := ?_)
                          refine WL.op (d := 160) (.int .i64 (ws.length : Int)) (k := ?_)
                          refine WL.op (d := 161) (.bool ((ws.length : Int) == 1)) (k := ?_)
                          refine WL.op (d := 162) (gotV 6 GOp.zero 0 0 0 none 0 0 ((ws.length : Int) == 1)) (k := ?_)
                          refine WL.store (v := gotV 6 GOp.zero 0 0 0 none 0 0 ((ws.length : Int) == 1)) (i := 0) (cs' := (Value.cells (gotV 6 GOp.zero 0 0 0 none 0 0 ((ws.length : Int) == 1)))) hb4 (k := fun w190 hb191 k192 => ?_)
                          replace hb40 := k192.heap hb40 (Ne.symm n13)
                          replace K := K.trans' k192 (fun i hi e => absurd (e ▸ hi) (Nat.not_lt.2 z6))
                          clear hb4
                          refine WL.nil ?_
                          refine WX.seqN ?_
                          refine WC.ret ?_
                          refine WX.blockR ?_
                          refine WX.seqR ?_
                          refine WX.ret (rs := [.cell 2 53]) [gotV 6 GOp.zero 0 0 0 none 0 0 ((ws.length : Int) == 1)] (gotV 6 GOp.zero 0 0 0 none 0 0 ((ws.length : Int) == 1)) ⟨⟨_, (by kernel_rfl), ldN (T := 53) (i := 0) (m := 16) (l := (Value.cells (gotV 6 GOp.zero 0 0 0 none 0 0 ((ws.length : Int) == 1))).toList) hb191⟩, trivial⟩ (k := ?_)
                          exact ⟨(⟨⟨6, (⟨0, ⟨0, 0, 0, 0, 0⟩, false, 0, 0, 0⟩ : GOp), 0, 0, 0, []⟩, none, 0⟩ : GCmd), (ws.length : Int) == 1, rfl, OwAt.nil, (by simp [blk]), (q_nil (kw := kSnapshot) (hr133.trans (congrArg some ph189)) qb_snap), (by simp), K⟩
                        · have ph189 := of_decide_eq_false h189
                          refine WC.seq ?_
                          refine WC.region ?_
                          refine WL.opE (d := 164) (.bool (ByteArray.toList ⟨(r132).toArray⟩ == ByteArray.toList ⟨([115, 116, 97, 114, 116]).toArray⟩)) (v := .bool (decide (r132 = [115, 116, 97, 114, 116]))) (str_eql _ _) (k := ?_)
                          refine WL.op (d := 163) (.bool (decide (r132 = [115, 116, 97, 114, 116]))) (k := ?_)
                          refine WL.nil ?_
                          refine WX.seqN ?_
                          refine WC.cond (b := decide (r132 = [115, 116, 97, 114, 116])) (ht := fun h193 => ?_) (hf := fun h193 => ?_)
                          · have ph193 := of_decide_eq_true h193
                            refine WC.seq ?_
                            refine WC.region ?_
                            refine WL.op (d := 165) (.agg #[.int .i64 9, .int .i64 0, .int .i64 0, .int .i64 0, .int .i64 0, .int .i64 0, .int .i64 0, .bool false, .int .i64 0, .int .i64 0, .int .i64 0, .int .i64 0, .int .i64 0, .int .i64 0, .slice none 0 0]) (k := ?_)
                            refine WL.op (d := 166) (.slice A ws.length cp) (k := ?_)
                            refine WL.op (d := 167) (.int .i64 (ws.length : Int)) (k := ?_)
                            refine WL.op (d := 168) (.bool ((ws.length : Int) == 1)) (k := ?_)
                            refine WL.op (d := 169) (gotV 9 GOp.zero 0 0 0 none 0 0 ((ws.length : Int) == 1)) (k := ?_)
                            refine WL.store (v := gotV 9 GOp.zero 0 0 0 none 0 0 ((ws.length : Int) == 1)) (i := 0) (cs' := (Value.cells (gotV 9 GOp.zero 0 0 0 none 0 0 ((ws.length : Int) == 1)))) hb4 (k := fun w194 hb195 k196 => ?_)
                            replace hb40 := k196.heap hb40 (Ne.symm n13)
                            replace K := K.trans' k196 (fun i hi e => absurd (e ▸ hi) (Nat.not_lt.2 z6))
                            clear hb4
                            refine WL.nil ?_
                            refine WX.seqN ?_
                            refine WC.ret ?_
                            refine WX.blockR ?_
                            refine WX.seqR ?_
                            refine WX.ret (rs := [.cell 2 53]) [gotV 9 GOp.zero 0 0 0 none 0 0 ((ws.length : Int) == 1)] (gotV 9 GOp.zero 0 0 0 none 0 0 ((ws.length : Int) == 1)) ⟨⟨_, (by kernel_rfl), ldN (T := 53) (i := 0) (m := 16) (l := (Value.cells (gotV 9 GOp.zero 0 0 0 none 0 0 ((ws.length : Int) == 1))).toList) hb195⟩, trivial⟩ (k := ?_)
                            exact ⟨(⟨⟨9, (⟨0, ⟨0, 0, 0, 0, 0⟩, false, 0, 0, 0⟩ : GOp), 0, 0, 0, []⟩, none, 0⟩ : GCmd), (ws.length : Int) == 1, rfl, OwAt.nil, (by simp [blk]), (q_nil (kw := kStart) (hr133.trans (congrArg some ph193)) qb_start), (by simp), K⟩
                          · have ph193 := of_decide_eq_false h193
                            refine WC.seq ?_
                            refine WC.region ?_
                            refine WL.opE (d := 171) (.bool (ByteArray.toList ⟨(r132).toArray⟩ == ByteArray.toList ⟨([99, 114, 97, 115, 104]).toArray⟩)) (v := .bool (decide (r132 = [99, 114, 97, 115, 104]))) (str_eql _ _) (k := ?_)
                            refine WL.op (d := 170) (.bool (decide (r132 = [99, 114, 97, 115, 104]))) (k := ?_)
                            refine WL.nil ?_
                            refine WX.seqN ?_
                            refine WC.cond (b := decide (r132 = [99, 114, 97, 115, 104])) (ht := fun h197 => ?_) (hf := fun h197 => ?_)
                            · have ph197 := of_decide_eq_true h197
                              refine WC.seq ?_
                              refine WC.region ?_
                              refine WL.op (d := 172) (.slice A ws.length cp) (k := ?_)
                              have hs198 := SlAt.cutD (a := 1) (c := cp) hA (by omega) (by omega)
                              refine WL.cut (d := 173) (vx := .slice A ws.length cp) (lo' := (some (.int .i64 1))) (hi' := none) (mx' := none) (v := .slice (cutA A cp 1 1) ((List.drop 1 ws).length) (cp - 1)) (run_cutSl (a := 1) (b := ws.length) (c := cp) (m := 1) (E := 9) (by kernel_rfl) (by kernel_rfl) (.inl ⟨rfl, rfl⟩) (.inl ⟨rfl, rfl, rfl⟩) (.inr ⟨_, _, rfl, by omega⟩) (by omega) (by omega) rfl (by simp <;> omega) (by omega)) (k := ?_)
                              refine WL.callG (d := 174) (f := 50) (args := #[.slice (cutA A cp 1 1) ((List.drop 1 ws).length) (cp - 1)]) (u25fates_c (cp := (cp - 1)) (hs198.adds K) (by simp; omega) (fun y hy => hx y (List.mem_of_mem_drop hy))) (k := fun e_ w199 h_ => ?_)
                              obtain ⟨g200, is201, rfl, ho202, ol203, hq204, hl205, k206⟩ := h_
                              refine ⟨_, rfl, ?_⟩
                              have ol207 := fun i h => Nat.le_trans K.size (ol203 i h)
                              replace hb4 := k206.heap hb4 id
                              replace hb40 := k206.heap hb40 id
                              replace K := K.trans (k206.any _)
                              clear ol203
                              refine WL.store (v := gotV g200.p.kind g200.p.op g200.p.id g200.p.work g200.p.n g200.A g200.p.fs.length g200.cap is201) (i := 0) (cs' := (Value.cells (gotV g200.p.kind g200.p.op g200.p.id g200.p.work g200.p.n g200.A g200.p.fs.length g200.cap is201))) hb4 (k := fun w208 hb209 k210 => ?_)
                              replace hb40 := k210.heap hb40 (Ne.symm n13)
                              replace ho202 := ho202.keeps k210 (fun i hi e => (ho202.offT hb4 (by decide)) (e ▸ hi))
                              replace K := K.trans' k210 (fun i hi e => absurd (e ▸ hi) (Nat.not_lt.2 z6))
                              clear hb4
                              refine WL.nil ?_
                              refine WX.seqN ?_
                              refine WC.ret ?_
                              refine WX.blockR ?_
                              refine WX.seqR ?_
                              refine WX.ret (rs := [.cell 2 53]) [gotV g200.p.kind g200.p.op g200.p.id g200.p.work g200.p.n g200.A g200.p.fs.length g200.cap is201] (gotV g200.p.kind g200.p.op g200.p.id g200.p.work g200.p.n g200.A g200.p.fs.length g200.cap is201) ⟨⟨_, (by kernel_rfl), ldN (T := 53) (i := 0) (m := 16) (l := (Value.cells (gotV g200.p.kind g200.p.op g200.p.id g200.p.work g200.p.n g200.A g200.p.fs.length g200.cap is201)).toList) hb209⟩, trivial⟩ (k := ?_)
                              exact ⟨g200, is201, rfl, ho202, ol207, (by rw [ws_cons (hr133.trans (congrArg some ph197) : ws[0]? = some kCrash)]; exact hq204), (by simp only [List.length_cons, List.length_drop] at hl205; omega), K⟩
                            · have ph197 := of_decide_eq_false h197
                              refine WC.skip ?_
                              refine WX.blockN ?_
                              refine WX.seqN ?_
                              refine WC.seq ?_
                              refine WC.region ?_
                              refine WL.op (d := 175) (gotV 0 GOp.zero 0 0 0 none 0 0 false) (k := ?_)
                              refine WL.store (v := gotV 0 GOp.zero 0 0 0 none 0 0 false) (i := 0) (cs' := (Value.cells (gotV 0 GOp.zero 0 0 0 none 0 0 false))) hb4 (k := fun w211 hb212 k213 => ?_)
                              replace hb40 := k213.heap hb40 (Ne.symm n13)
                              replace K := K.trans' k213 (fun i hi e => absurd (e ▸ hi) (Nat.not_lt.2 z6))
                              clear hb4
                              refine WL.nil ?_
                              refine WX.seqN ?_
                              refine WC.ret ?_
                              refine WX.ret (rs := [.cell 2 53]) [gotV 0 GOp.zero 0 0 0 none 0 0 false] (gotV 0 GOp.zero 0 0 0 none 0 0 false) ⟨⟨_, (by kernel_rfl), ldN (T := 53) (i := 0) (m := 16) (l := (Value.cells (gotV 0 GOp.zero 0 0 0 none 0 0 false)).toList) hb212⟩, trivial⟩ (k := ?_)
                              exact ⟨(⟨⟨0, (⟨0, ⟨0, 0, 0, 0, 0⟩, false, 0, 0, 0⟩ : GOp), 0, 0, 0, []⟩, none, 0⟩ : GCmd), false, rfl, OwAt.nil, (by simp [blk]), (q_other hr133 (fun k_ => by rcases k_ with k_ | k_ | k_ | k_ | k_ | k_ | k_ | k_ <;> first | exact ph161 k_ | exact ph169 k_ | exact ph177 k_ | exact ph181 k_ | exact ph185 k_ | exact ph189 k_ | exact ph193 k_ | exact ph197 k_) (fun k_ => k_.elim ph137 ph141) ph145 ph149 ph157), (by simp), K⟩
  have ph44 := ne_of_beq_false h44
  refine WL.rw (t := 42) (v := .bool false) (congrArg Value.bool h44) (k := ?_)
  refine WL.skip (d := 43) (k := ?_)
  refine WL.skip (d := 44) (k := ?_)
  refine WL.skip (d := 45) (k := ?_)
  refine WL.skip (d := 46) (k := ?_)
  refine WL.op (d := 47) (.bool false) (k := ?_)
  refine WL.op (d := 48) (.bool false) (k := ?_)
  refine WL.skip (d := 49) (k := ?_)
  refine WL.skip (d := 50) (k := ?_)
  refine WL.skip (d := 51) (k := ?_)
  refine WL.skip (d := 52) (k := ?_)
  refine WL.op (d := 53) (.bool false) (k := ?_)
  refine WL.op (d := 6) (.bool false) (k := ?_)
  refine WL.nil ?_
  refine WX.seqN ?_
  refine WC.seq ?_
  refine WC.seq ?_
  refine WC.region ?_
  refine WL.op (d := 54) (.slice A ws.length cp) (k := ?_)
  obtain ⟨b214, o215, r216, hr217, hA218, he219⟩ := SlAt.at hA (i := 0) (by omega) (by omega)
  refine WL.rw (t := 54) (v := .slice (some ⟨b214, o215, none⟩) ws.length cp) (congrArg (fun a => Value.slice a ws.length cp) hA218) (k := ?_)
  have wx220 := hx _ (List.mem_of_getElem? hr217)
  refine WL.idx (T := 43) (E := 9) (m := 1) (b := b214) (o := o215) (len := ws.length) (cap := cp) (i := 0) (kk := .i64) (d := 55) (by omega) (by omega) (k := ?_)
  refine WL.rw (t := 54) (v := .slice A ws.length cp) (congrArg (fun a => Value.slice a ws.length cp) (Eq.symm hA218)) (k := ?_)
  refine WL.load (v := .string ⟨(r216).toArray⟩) ((he219.adds K).ld0 (T := 9)) (k := ?_)
  refine WL.nil ?_
  refine WX.seqN ?_
  refine WC.block ?_
  refine WC.seq ?_
  refine WC.seq ?_
  refine WC.region ?_
  refine WL.opE (d := 58) (.bool (ByteArray.toList ⟨(r216).toArray⟩ == ByteArray.toList ⟨([97, 100, 109, 105, 116]).toArray⟩)) (v := .bool (decide (r216 = [97, 100, 109, 105, 116]))) (str_eql _ _) (k := ?_)
  refine WL.op (d := 57) (.bool (decide (r216 = [97, 100, 109, 105, 116]))) (k := ?_)
  refine WL.nil ?_
  refine WX.seqN ?_
  refine WC.cond (b := decide (r216 = [97, 100, 109, 105, 116])) (ht := fun h221 => ?_) (hf := fun h221 => ?_)
  · have ph221 := of_decide_eq_true h221
    refine WC.skip ?_
    refine WX.seqN ?_
    refine WC.rw (t := 57) (v := .bool true) (congrArg Value.bool h221) (k := ?_)
    refine WC.condT (k := ?_)
    refine WC.seq ?_
    refine WC.seq ?_
    refine WC.region ?_
    refine WL.op (d := 60) (.slice A ws.length cp) (k := ?_)
    refine WL.op (d := 61) (.int .i64 (ws.length : Int)) (k := ?_)
    refine WL.op (d := 62) (.bool ((ws.length : Int) != 2)) (k := ?_)
    refine WL.nil ?_
    refine WX.seqN ?_
    refine WC.rw (t := 62) (v := .bool true) (congrArg Value.bool h43) (k := ?_)
    refine WC.condT (k := ?_)
    refine WC.seq ?_
    refine WC.region ?_
    refine WL.op (d := 63) (gotV 0 GOp.zero 0 0 0 none 0 0 false) (k := ?_)
    refine WL.store (v := gotV 0 GOp.zero 0 0 0 none 0 0 false) (i := 0) (cs' := (Value.cells (gotV 0 GOp.zero 0 0 0 none 0 0 false))) hb4 (k := fun w222 hb223 k224 => ?_)
    replace hb40 := k224.heap hb40 (Ne.symm n13)
    replace K := K.trans' k224 (fun i hi e => absurd (e ▸ hi) (Nat.not_lt.2 z6))
    clear hb4
    refine WL.nil ?_
    refine WX.seqN ?_
    refine WC.ret ?_
    refine WX.seqR ?_
    refine WX.blockR ?_
    refine WX.seqR ?_
    refine WX.ret (rs := [.cell 2 53]) [gotV 0 GOp.zero 0 0 0 none 0 0 false] (gotV 0 GOp.zero 0 0 0 none 0 0 false) ⟨⟨_, (by kernel_rfl), ldN (T := 53) (i := 0) (m := 16) (l := (Value.cells (gotV 0 GOp.zero 0 0 0 none 0 0 false)).toList) hb223⟩, trivial⟩ (k := ?_)
    exact ⟨(⟨⟨0, (⟨0, ⟨0, 0, 0, 0, 0⟩, false, 0, 0, 0⟩ : GOp), 0, 0, 0, []⟩, none, 0⟩ : GCmd), false, rfl, OwAt.nil, (by simp [blk]), (q_task_no hr217 (.inl ph221) (by omega)), (by simp), K⟩
  · have ph221 := of_decide_eq_false h221
    refine WC.region ?_
    refine WL.opE (d := 59) (.bool (ByteArray.toList ⟨(r216).toArray⟩ == ByteArray.toList ⟨([115, 101, 114, 118, 101]).toArray⟩)) (v := .bool (decide (r216 = [115, 101, 114, 118, 101]))) (str_eql _ _) (k := ?_)
    refine WL.op (d := 57) (.bool (decide (r216 = [115, 101, 114, 118, 101]))) (k := ?_)
    refine WL.nil ?_
    refine WX.seqN ?_
    refine WC.cond (b := decide (r216 = [115, 101, 114, 118, 101])) (ht := fun h225 => ?_) (hf := fun h225 => ?_)
    · have ph225 := of_decide_eq_true h225
      refine WC.seq ?_
      refine WC.seq ?_
      refine WC.region ?_
      refine WL.op (d := 60) (.slice A ws.length cp) (k := ?_)
      refine WL.op (d := 61) (.int .i64 (ws.length : Int)) (k := ?_)
      refine WL.op (d := 62) (.bool ((ws.length : Int) != 2)) (k := ?_)
      refine WL.nil ?_
      refine WX.seqN ?_
      refine WC.rw (t := 62) (v := .bool true) (congrArg Value.bool h43) (k := ?_)
      refine WC.condT (k := ?_)
      refine WC.seq ?_
      refine WC.region ?_
      refine WL.op (d := 63) (gotV 0 GOp.zero 0 0 0 none 0 0 false) (k := ?_)
      refine WL.store (v := gotV 0 GOp.zero 0 0 0 none 0 0 false) (i := 0) (cs' := (Value.cells (gotV 0 GOp.zero 0 0 0 none 0 0 false))) hb4 (k := fun w226 hb227 k228 => ?_)
      replace hb40 := k228.heap hb40 (Ne.symm n13)
      replace K := K.trans' k228 (fun i hi e => absurd (e ▸ hi) (Nat.not_lt.2 z6))
      clear hb4
      refine WL.nil ?_
      refine WX.seqN ?_
      refine WC.ret ?_
      refine WX.seqR ?_
      refine WX.blockR ?_
      refine WX.seqR ?_
      refine WX.ret (rs := [.cell 2 53]) [gotV 0 GOp.zero 0 0 0 none 0 0 false] (gotV 0 GOp.zero 0 0 0 none 0 0 false) ⟨⟨_, (by kernel_rfl), ldN (T := 53) (i := 0) (m := 16) (l := (Value.cells (gotV 0 GOp.zero 0 0 0 none 0 0 false)).toList) hb227⟩, trivial⟩ (k := ?_)
      exact ⟨(⟨⟨0, (⟨0, ⟨0, 0, 0, 0, 0⟩, false, 0, 0, 0⟩ : GOp), 0, 0, 0, []⟩, none, 0⟩ : GCmd), false, rfl, OwAt.nil, (by simp [blk]), (q_task_no hr217 (.inr ph225) (by omega)), (by simp), K⟩
    · have ph225 := of_decide_eq_false h225
      refine WC.seq ?_
      refine WC.region ?_
      refine WL.opE (d := 81) (.bool (ByteArray.toList ⟨(r216).toArray⟩ == ByteArray.toList ⟨([114, 101, 109, 111, 118, 101]).toArray⟩)) (v := .bool (decide (r216 = [114, 101, 109, 111, 118, 101]))) (str_eql _ _) (k := ?_)
      refine WL.op (d := 80) (.bool (decide (r216 = [114, 101, 109, 111, 118, 101]))) (k := ?_)
      refine WL.nil ?_
      refine WX.seqN ?_
      refine WC.cond (b := decide (r216 = [114, 101, 109, 111, 118, 101])) (ht := fun h229 => ?_) (hf := fun h229 => ?_)
      · have ph229 := of_decide_eq_true h229
        refine WC.seq ?_
        refine WC.region ?_
        refine WL.op (d := 82) (.slice (some ⟨b7, 0, none⟩) 2 2) (k := ?_)
        refine WL.op (d := 83) (.pointer (some ⟨b7, 0, none⟩)) (k := ?_)
        refine WL.load (v := .int .i64 (numR r18)) (ld1 (T := 2) (i := 0) hb40) (k := ?_)
        refine WL.op (d := 85) (.agg #[.int .i64 2, .int .i64 0, .int .i64 0, .int .i64 0, .int .i64 0, .int .i64 0, .bool false, .int .i64 (numR r18), .int .i64 0, .int .i64 0]) (k := ?_)
        refine WL.op (d := 86) (.agg #[.int .i64 1, .int .i64 2, .int .i64 0, .int .i64 0, .int .i64 0, .int .i64 0, .int .i64 0, .bool false, .int .i64 (numR r18), .int .i64 0, .int .i64 0, .int .i64 0, .int .i64 0, .int .i64 0, .slice none 0 0]) (k := ?_)
        refine WL.op (d := 87) (.bool false) (k := ?_)
        refine WL.op (d := 88) (gotV 1 (⟨2, ⟨0, 0, 0, 0, 0⟩, false, (numR r18), 0, 0⟩ : GOp) 0 0 0 none 0 0 false) (k := ?_)
        refine WL.store (v := gotV 1 (⟨2, ⟨0, 0, 0, 0, 0⟩, false, (numR r18), 0, 0⟩ : GOp) 0 0 0 none 0 0 false) (i := 0) (cs' := (Value.cells (gotV 1 (⟨2, ⟨0, 0, 0, 0, 0⟩, false, (numR r18), 0, 0⟩ : GOp) 0 0 0 none 0 0 false))) hb4 (k := fun w230 hb231 k232 => ?_)
        replace hb40 := k232.heap hb40 (Ne.symm n13)
        replace K := K.trans' k232 (fun i hi e => absurd (e ▸ hi) (Nat.not_lt.2 z6))
        clear hb4
        refine WL.nil ?_
        refine WX.seqN ?_
        refine WC.ret ?_
        refine WX.blockR ?_
        refine WX.seqR ?_
        refine WX.ret (rs := [.cell 2 53]) [gotV 1 (⟨2, ⟨0, 0, 0, 0, 0⟩, false, (numR r18), 0, 0⟩ : GOp) 0 0 0 none 0 0 false] (gotV 1 (⟨2, ⟨0, 0, 0, 0, 0⟩, false, (numR r18), 0, 0⟩ : GOp) 0 0 0 none 0 0 false) ⟨⟨_, (by kernel_rfl), ldN (T := 53) (i := 0) (m := 16) (l := (Value.cells (gotV 1 (⟨2, ⟨0, 0, 0, 0, 0⟩, false, (numR r18), 0, 0⟩ : GOp) 0 0 0 none 0 0 false)).toList) hb231⟩, trivial⟩ (k := ?_)
        exact ⟨(⟨⟨1, (⟨2, ⟨0, 0, 0, 0, 0⟩, false, (numR r18), 0, 0⟩ : GOp), 0, 0, 0, []⟩, none, 0⟩ : GCmd), false, rfl, OwAt.nil, (by simp [blk]), (q_one_no (G := gRemove) (kw := kRemove) (hr217.trans (congrArg some ph229)) qb_remove (by omega)), (by simp), K⟩
      · have ph229 := of_decide_eq_false h229
        refine WC.seq ?_
        refine WC.region ?_
        refine WL.opE (d := 90) (.bool (ByteArray.toList ⟨(r216).toArray⟩ == ByteArray.toList ⟨([114, 101, 115, 105, 122, 101]).toArray⟩)) (v := .bool (decide (r216 = [114, 101, 115, 105, 122, 101]))) (str_eql _ _) (k := ?_)
        refine WL.op (d := 89) (.bool (decide (r216 = [114, 101, 115, 105, 122, 101]))) (k := ?_)
        refine WL.nil ?_
        refine WX.seqN ?_
        refine WC.cond (b := decide (r216 = [114, 101, 115, 105, 122, 101])) (ht := fun h233 => ?_) (hf := fun h233 => ?_)
        · have ph233 := of_decide_eq_true h233
          refine WC.seq ?_
          refine WC.mixed (fun _ => False) 10 (k := fun w234 k235 => ?_)
          replace hb4 := k235.heap hb4 id
          replace hb40 := k235.heap hb40 id
          replace K := K.trans (k235.any _)
          have KC := Keeps.refl (fun _ => False) w234
          have bh236 := hb4
          have bh237 := hb40
          have Kb := K
          refine WA.quiet 0 (d := 91) (.slice (some ⟨b7, 0, none⟩) 2 2) KC (hi := rfl) (k := ?_)
          refine WA.quiet 1 (d := 92) (.pointer (some ⟨b7, 0, none⟩)) KC (hi := rfl) (k := ?_)
          refine WA.quietR 2 (d := 93) (.int .i64 (numR r18)) KC (exec_load (fun w_ k_ => ld1 (T := 2) (i := 0) (k_.heap bh237 id))) (hi := rfl) (k := ?_)
          refine WA.quiet 3 (d := 94) (.slice (some ⟨b7, 0, none⟩) 2 2) KC (hi := rfl) (k := ?_)
          refine WA.quiet 4 (d := 95) (.pointer (some ⟨b7, 1, none⟩)) KC (hi := rfl) (k := ?_)
          refine WA.quietR 5 (d := 96) (.int .i64 (numR r31)) KC (exec_load (fun w_ k_ => ld1 (T := 2) (i := 1) (k_.heap bh237 id))) (hi := rfl) (k := ?_)
          refine WA.quiet 6 (d := 97) (.agg #[.int .i64 3, .int .i64 0, .int .i64 0, .int .i64 0, .int .i64 0, .int .i64 0, .bool false, .int .i64 (numR r18), .int .i64 (numR r31), .int .i64 0]) KC (hi := rfl) (k := ?_)
          refine WA.quiet 7 (d := 98) (.agg #[.int .i64 1, .int .i64 3, .int .i64 0, .int .i64 0, .int .i64 0, .int .i64 0, .int .i64 0, .bool false, .int .i64 (numR r18), .int .i64 (numR r31), .int .i64 0, .int .i64 0, .int .i64 0, .int .i64 0, .slice none 0 0]) KC (hi := rfl) (k := ?_)
          refine WA.quiet 8 (d := 99) (.bool false) KC (hi := rfl) (k := ?_)
          refine WA.quiet 9 (d := 100) (gotV 1 (⟨3, ⟨0, 0, 0, 0, 0⟩, false, (numR r18), (numR r31), 0⟩ : GOp) 0 0 0 none 0 0 false) KC (hi := rfl) (k := ?_)
          refine WA.step 10 (hi := rfl) (k := ?_)
          refine WL.store (v := gotV 1 (⟨3, ⟨0, 0, 0, 0, 0⟩, false, (numR r18), (numR r31), 0⟩ : GOp) 0 0 0 none 0 0 false) (i := 0) (cs' := (Value.cells (gotV 1 (⟨3, ⟨0, 0, 0, 0, 0⟩, false, (numR r18), (numR r31), 0⟩ : GOp) 0 0 0 none 0 0 false))) hb4 (k := fun w238 hb239 k240 => ?_)
          replace hb40 := k240.heap hb40 (Ne.symm n13)
          replace K := K.trans' k240 (fun i hi e => absurd (e ▸ hi) (Nat.not_lt.2 z6))
          clear hb4
          refine WL.nil ?_
          refine WX.nxtL ?_
          refine WA.done (k := ?_)
          clear KC
          refine WX.seqN ?_
          refine WC.ret ?_
          refine WX.blockR ?_
          refine WX.seqR ?_
          refine WX.ret (rs := [.cell 2 53]) [gotV 1 (⟨3, ⟨0, 0, 0, 0, 0⟩, false, (numR r18), (numR r31), 0⟩ : GOp) 0 0 0 none 0 0 false] (gotV 1 (⟨3, ⟨0, 0, 0, 0, 0⟩, false, (numR r18), (numR r31), 0⟩ : GOp) 0 0 0 none 0 0 false) ⟨⟨_, (by kernel_rfl), ldN (T := 53) (i := 0) (m := 16) (l := (Value.cells (gotV 1 (⟨3, ⟨0, 0, 0, 0, 0⟩, false, (numR r18), (numR r31), 0⟩ : GOp) 0 0 0 none 0 0 false)).toList) hb239⟩, trivial⟩ (k := ?_)
          exact ⟨(⟨⟨1, (⟨3, ⟨0, 0, 0, 0, 0⟩, false, (numR r18), (numR r31), 0⟩ : GOp), 0, 0, 0, []⟩, none, 0⟩ : GCmd), false, rfl, OwAt.nil, (by simp [blk]), (q_two_no (G := gResize) (kw := kResize) (hr217.trans (congrArg some ph233)) qb_resize (by omega)), (by simp), K⟩
        · have ph233 := of_decide_eq_false h233
          refine WC.seq ?_
          refine WC.region ?_
          refine WL.opE (d := 102) (.bool (ByteArray.toList ⟨(r216).toArray⟩ == ByteArray.toList ⟨([109, 111, 100, 101]).toArray⟩)) (v := .bool (decide (r216 = [109, 111, 100, 101]))) (str_eql _ _) (k := ?_)
          refine WL.op (d := 101) (.bool (decide (r216 = [109, 111, 100, 101]))) (k := ?_)
          refine WL.nil ?_
          refine WX.seqN ?_
          refine WC.cond (b := decide (r216 = [109, 111, 100, 101])) (ht := fun h241 => ?_) (hf := fun h241 => ?_)
          · have ph241 := of_decide_eq_true h241
            refine WC.seq ?_
            refine WC.region ?_
            refine WL.op (d := 103) (.slice (some ⟨b7, 0, none⟩) 2 2) (k := ?_)
            refine WL.op (d := 104) (.pointer (some ⟨b7, 0, none⟩)) (k := ?_)
            refine WL.load (v := .int .i64 (numR r18)) (ld1 (T := 2) (i := 0) hb40) (k := ?_)
            refine WL.op (d := 106) (.agg #[.int .i64 4, .int .i64 0, .int .i64 0, .int .i64 0, .int .i64 0, .int .i64 0, .bool false, .int .i64 0, .int .i64 0, .int .i64 (numR r18)]) (k := ?_)
            refine WL.op (d := 107) (.agg #[.int .i64 1, .int .i64 4, .int .i64 0, .int .i64 0, .int .i64 0, .int .i64 0, .int .i64 0, .bool false, .int .i64 0, .int .i64 0, .int .i64 (numR r18), .int .i64 0, .int .i64 0, .int .i64 0, .slice none 0 0]) (k := ?_)
            refine WL.op (d := 108) (.bool false) (k := ?_)
            refine WL.op (d := 109) (gotV 1 (⟨4, ⟨0, 0, 0, 0, 0⟩, false, 0, 0, (numR r18)⟩ : GOp) 0 0 0 none 0 0 false) (k := ?_)
            refine WL.store (v := gotV 1 (⟨4, ⟨0, 0, 0, 0, 0⟩, false, 0, 0, (numR r18)⟩ : GOp) 0 0 0 none 0 0 false) (i := 0) (cs' := (Value.cells (gotV 1 (⟨4, ⟨0, 0, 0, 0, 0⟩, false, 0, 0, (numR r18)⟩ : GOp) 0 0 0 none 0 0 false))) hb4 (k := fun w242 hb243 k244 => ?_)
            replace hb40 := k244.heap hb40 (Ne.symm n13)
            replace K := K.trans' k244 (fun i hi e => absurd (e ▸ hi) (Nat.not_lt.2 z6))
            clear hb4
            refine WL.nil ?_
            refine WX.seqN ?_
            refine WC.ret ?_
            refine WX.blockR ?_
            refine WX.seqR ?_
            refine WX.ret (rs := [.cell 2 53]) [gotV 1 (⟨4, ⟨0, 0, 0, 0, 0⟩, false, 0, 0, (numR r18)⟩ : GOp) 0 0 0 none 0 0 false] (gotV 1 (⟨4, ⟨0, 0, 0, 0, 0⟩, false, 0, 0, (numR r18)⟩ : GOp) 0 0 0 none 0 0 false) ⟨⟨_, (by kernel_rfl), ldN (T := 53) (i := 0) (m := 16) (l := (Value.cells (gotV 1 (⟨4, ⟨0, 0, 0, 0, 0⟩, false, 0, 0, (numR r18)⟩ : GOp) 0 0 0 none 0 0 false)).toList) hb243⟩, trivial⟩ (k := ?_)
            exact ⟨(⟨⟨1, (⟨4, ⟨0, 0, 0, 0, 0⟩, false, 0, 0, (numR r18)⟩ : GOp), 0, 0, 0, []⟩, none, 0⟩ : GCmd), false, rfl, OwAt.nil, (by simp [blk]), (q_one_no (G := gMode) (kw := kMode) (hr217.trans (congrArg some ph241)) qb_mode (by omega)), (by simp), K⟩
          · have ph241 := of_decide_eq_false h241
            refine WC.seq ?_
            refine WC.region ?_
            refine WL.opE (d := 111) (.bool (ByteArray.toList ⟨(r216).toArray⟩ == ByteArray.toList ⟨([114, 101, 108, 101, 97, 115, 101]).toArray⟩)) (v := .bool (decide (r216 = [114, 101, 108, 101, 97, 115, 101]))) (str_eql _ _) (k := ?_)
            refine WL.op (d := 110) (.bool (decide (r216 = [114, 101, 108, 101, 97, 115, 101]))) (k := ?_)
            refine WL.nil ?_
            refine WX.seqN ?_
            refine WC.cond (b := decide (r216 = [114, 101, 108, 101, 97, 115, 101])) (ht := fun h245 => ?_) (hf := fun h245 => ?_)
            · have ph245 := of_decide_eq_true h245
              refine WC.seq ?_
              refine WC.mixed (fun _ => False) 9 (k := fun w246 k247 => ?_)
              replace hb4 := k247.heap hb4 id
              replace hb40 := k247.heap hb40 id
              replace K := K.trans (k247.any _)
              have KC := Keeps.refl (fun _ => False) w246
              have bh248 := hb4
              have bh249 := hb40
              have Kb := K
              refine WA.quiet 0 (d := 112) (.slice (some ⟨b7, 0, none⟩) 2 2) KC (hi := rfl) (k := ?_)
              refine WA.quiet 1 (d := 113) (.pointer (some ⟨b7, 0, none⟩)) KC (hi := rfl) (k := ?_)
              refine WA.quietR 2 (d := 114) (.int .i64 (numR r18)) KC (exec_load (fun w_ k_ => ld1 (T := 2) (i := 0) (k_.heap bh249 id))) (hi := rfl) (k := ?_)
              refine WA.quiet 3 (d := 115) (.slice (some ⟨b7, 0, none⟩) 2 2) KC (hi := rfl) (k := ?_)
              refine WA.quiet 4 (d := 116) (.pointer (some ⟨b7, 1, none⟩)) KC (hi := rfl) (k := ?_)
              refine WA.quietR 5 (d := 117) (.int .i64 (numR r31)) KC (exec_load (fun w_ k_ => ld1 (T := 2) (i := 1) (k_.heap bh249 id))) (hi := rfl) (k := ?_)
              refine WA.quiet 6 (d := 118) (.agg #[.int .i64 2, .int .i64 0, .int .i64 0, .int .i64 0, .int .i64 0, .int .i64 0, .int .i64 0, .bool false, .int .i64 0, .int .i64 0, .int .i64 0, .int .i64 (numR r18), .int .i64 (numR r31), .int .i64 0, .slice none 0 0]) KC (hi := rfl) (k := ?_)
              refine WA.quiet 7 (d := 119) (.bool false) KC (hi := rfl) (k := ?_)
              refine WA.quiet 8 (d := 120) (gotV 2 GOp.zero (numR r18) (numR r31) 0 none 0 0 false) KC (hi := rfl) (k := ?_)
              refine WA.step 9 (hi := rfl) (k := ?_)
              refine WL.store (v := gotV 2 GOp.zero (numR r18) (numR r31) 0 none 0 0 false) (i := 0) (cs' := (Value.cells (gotV 2 GOp.zero (numR r18) (numR r31) 0 none 0 0 false))) hb4 (k := fun w250 hb251 k252 => ?_)
              replace hb40 := k252.heap hb40 (Ne.symm n13)
              replace K := K.trans' k252 (fun i hi e => absurd (e ▸ hi) (Nat.not_lt.2 z6))
              clear hb4
              refine WL.nil ?_
              refine WX.nxtL ?_
              refine WA.done (k := ?_)
              clear KC
              refine WX.seqN ?_
              refine WC.ret ?_
              refine WX.blockR ?_
              refine WX.seqR ?_
              refine WX.ret (rs := [.cell 2 53]) [gotV 2 GOp.zero (numR r18) (numR r31) 0 none 0 0 false] (gotV 2 GOp.zero (numR r18) (numR r31) 0 none 0 0 false) ⟨⟨_, (by kernel_rfl), ldN (T := 53) (i := 0) (m := 16) (l := (Value.cells (gotV 2 GOp.zero (numR r18) (numR r31) 0 none 0 0 false)).toList) hb251⟩, trivial⟩ (k := ?_)
              exact ⟨(⟨⟨2, (⟨0, ⟨0, 0, 0, 0, 0⟩, false, 0, 0, 0⟩ : GOp), (numR r18), (numR r31), 0, []⟩, none, 0⟩ : GCmd), false, rfl, OwAt.nil, (by simp [blk]), (q_two_no (G := (gWrk 2)) (kw := kRelease) (hr217.trans (congrArg some ph245)) (qb_wrk (.inl ⟨rfl, rfl⟩)) (by omega)), (by simp), K⟩
            · have ph245 := of_decide_eq_false h245
              refine WC.seq ?_
              refine WC.region ?_
              refine WL.opE (d := 122) (.bool (ByteArray.toList ⟨(r216).toArray⟩ == ByteArray.toList ⟨([97, 115, 107]).toArray⟩)) (v := .bool (decide (r216 = [97, 115, 107]))) (str_eql _ _) (k := ?_)
              refine WL.op (d := 121) (.bool (decide (r216 = [97, 115, 107]))) (k := ?_)
              refine WL.nil ?_
              refine WX.seqN ?_
              refine WC.cond (b := decide (r216 = [97, 115, 107])) (ht := fun h253 => ?_) (hf := fun h253 => ?_)
              · have ph253 := of_decide_eq_true h253
                refine WC.seq ?_
                refine WC.mixed (fun _ => False) 9 (k := fun w254 k255 => ?_)
                replace hb4 := k255.heap hb4 id
                replace hb40 := k255.heap hb40 id
                replace K := K.trans (k255.any _)
                have KC := Keeps.refl (fun _ => False) w254
                have bh256 := hb4
                have bh257 := hb40
                have Kb := K
                refine WA.quiet 0 (d := 123) (.slice (some ⟨b7, 0, none⟩) 2 2) KC (hi := rfl) (k := ?_)
                refine WA.quiet 1 (d := 124) (.pointer (some ⟨b7, 0, none⟩)) KC (hi := rfl) (k := ?_)
                refine WA.quietR 2 (d := 125) (.int .i64 (numR r18)) KC (exec_load (fun w_ k_ => ld1 (T := 2) (i := 0) (k_.heap bh257 id))) (hi := rfl) (k := ?_)
                refine WA.quiet 3 (d := 126) (.slice (some ⟨b7, 0, none⟩) 2 2) KC (hi := rfl) (k := ?_)
                refine WA.quiet 4 (d := 127) (.pointer (some ⟨b7, 1, none⟩)) KC (hi := rfl) (k := ?_)
                refine WA.quietR 5 (d := 128) (.int .i64 (numR r31)) KC (exec_load (fun w_ k_ => ld1 (T := 2) (i := 1) (k_.heap bh257 id))) (hi := rfl) (k := ?_)
                refine WA.quiet 6 (d := 129) (.agg #[.int .i64 3, .int .i64 0, .int .i64 0, .int .i64 0, .int .i64 0, .int .i64 0, .int .i64 0, .bool false, .int .i64 0, .int .i64 0, .int .i64 0, .int .i64 (numR r18), .int .i64 (numR r31), .int .i64 0, .slice none 0 0]) KC (hi := rfl) (k := ?_)
                refine WA.quiet 7 (d := 130) (.bool false) KC (hi := rfl) (k := ?_)
                refine WA.quiet 8 (d := 131) (gotV 3 GOp.zero (numR r18) (numR r31) 0 none 0 0 false) KC (hi := rfl) (k := ?_)
                refine WA.step 9 (hi := rfl) (k := ?_)
                refine WL.store (v := gotV 3 GOp.zero (numR r18) (numR r31) 0 none 0 0 false) (i := 0) (cs' := (Value.cells (gotV 3 GOp.zero (numR r18) (numR r31) 0 none 0 0 false))) hb4 (k := fun w258 hb259 k260 => ?_)
                replace hb40 := k260.heap hb40 (Ne.symm n13)
                replace K := K.trans' k260 (fun i hi e => absurd (e ▸ hi) (Nat.not_lt.2 z6))
                clear hb4
                refine WL.nil ?_
                refine WX.nxtL ?_
                refine WA.done (k := ?_)
                clear KC
                refine WX.seqN ?_
                refine WC.ret ?_
                refine WX.blockR ?_
                refine WX.seqR ?_
                refine WX.ret (rs := [.cell 2 53]) [gotV 3 GOp.zero (numR r18) (numR r31) 0 none 0 0 false] (gotV 3 GOp.zero (numR r18) (numR r31) 0 none 0 0 false) ⟨⟨_, (by kernel_rfl), ldN (T := 53) (i := 0) (m := 16) (l := (Value.cells (gotV 3 GOp.zero (numR r18) (numR r31) 0 none 0 0 false)).toList) hb259⟩, trivial⟩ (k := ?_)
                exact ⟨(⟨⟨3, (⟨0, ⟨0, 0, 0, 0, 0⟩, false, 0, 0, 0⟩ : GOp), (numR r18), (numR r31), 0, []⟩, none, 0⟩ : GCmd), false, rfl, OwAt.nil, (by simp [blk]), (q_two_no (G := (gWrk 3)) (kw := kAsk) (hr217.trans (congrArg some ph253)) (qb_wrk (.inr ⟨rfl, rfl⟩)) (by omega)), (by simp), K⟩
              · have ph253 := of_decide_eq_false h253
                refine WC.seq ?_
                refine WC.region ?_
                refine WL.opE (d := 133) (.bool (ByteArray.toList ⟨(r216).toArray⟩ == ByteArray.toList ⟨([116, 105, 99, 107]).toArray⟩)) (v := .bool (decide (r216 = [116, 105, 99, 107]))) (str_eql _ _) (k := ?_)
                refine WL.op (d := 132) (.bool (decide (r216 = [116, 105, 99, 107]))) (k := ?_)
                refine WL.nil ?_
                refine WX.seqN ?_
                refine WC.cond (b := decide (r216 = [116, 105, 99, 107])) (ht := fun h261 => ?_) (hf := fun h261 => ?_)
                · have ph261 := of_decide_eq_true h261
                  refine WC.seq ?_
                  refine WC.region ?_
                  refine WL.op (d := 134) (.slice (some ⟨b7, 0, none⟩) 2 2) (k := ?_)
                  refine WL.op (d := 135) (.pointer (some ⟨b7, 0, none⟩)) (k := ?_)
                  refine WL.load (v := .int .i64 (numR r18)) (ld1 (T := 2) (i := 0) hb40) (k := ?_)
                  refine WL.op (d := 137) (.agg #[.int .i64 4, .int .i64 0, .int .i64 0, .int .i64 0, .int .i64 0, .int .i64 0, .int .i64 0, .bool false, .int .i64 0, .int .i64 0, .int .i64 0, .int .i64 0, .int .i64 0, .int .i64 (numR r18), .slice none 0 0]) (k := ?_)
                  refine WL.op (d := 138) (.bool false) (k := ?_)
                  refine WL.op (d := 139) (gotV 4 GOp.zero 0 0 (numR r18) none 0 0 false) (k := ?_)
                  refine WL.store (v := gotV 4 GOp.zero 0 0 (numR r18) none 0 0 false) (i := 0) (cs' := (Value.cells (gotV 4 GOp.zero 0 0 (numR r18) none 0 0 false))) hb4 (k := fun w262 hb263 k264 => ?_)
                  replace hb40 := k264.heap hb40 (Ne.symm n13)
                  replace K := K.trans' k264 (fun i hi e => absurd (e ▸ hi) (Nat.not_lt.2 z6))
                  clear hb4
                  refine WL.nil ?_
                  refine WX.seqN ?_
                  refine WC.ret ?_
                  refine WX.blockR ?_
                  refine WX.seqR ?_
                  refine WX.ret (rs := [.cell 2 53]) [gotV 4 GOp.zero 0 0 (numR r18) none 0 0 false] (gotV 4 GOp.zero 0 0 (numR r18) none 0 0 false) ⟨⟨_, (by kernel_rfl), ldN (T := 53) (i := 0) (m := 16) (l := (Value.cells (gotV 4 GOp.zero 0 0 (numR r18) none 0 0 false)).toList) hb263⟩, trivial⟩ (k := ?_)
                  exact ⟨(⟨⟨4, (⟨0, ⟨0, 0, 0, 0, 0⟩, false, 0, 0, 0⟩ : GOp), 0, 0, (numR r18), []⟩, none, 0⟩ : GCmd), false, rfl, OwAt.nil, (by simp [blk]), (q_one_no (G := gTick) (kw := kTick) (hr217.trans (congrArg some ph261)) qb_tick (by omega)), (by simp), K⟩
                · have ph261 := of_decide_eq_false h261
                  refine WC.seq ?_
                  refine WC.region ?_
                  refine WL.opE (d := 141) (.bool (ByteArray.toList ⟨(r216).toArray⟩ == ByteArray.toList ⟨([102, 97, 105, 108]).toArray⟩)) (v := .bool (decide (r216 = [102, 97, 105, 108]))) (str_eql _ _) (k := ?_)
                  refine WL.op (d := 140) (.bool (decide (r216 = [102, 97, 105, 108]))) (k := ?_)
                  refine WL.nil ?_
                  refine WX.seqN ?_
                  refine WC.cond (b := decide (r216 = [102, 97, 105, 108])) (ht := fun h265 => ?_) (hf := fun h265 => ?_)
                  · have ph265 := of_decide_eq_true h265
                    refine WC.seq ?_
                    refine WC.region ?_
                    refine WL.op (d := 142) (.slice (some ⟨b7, 0, none⟩) 2 2) (k := ?_)
                    refine WL.op (d := 143) (.pointer (some ⟨b7, 0, none⟩)) (k := ?_)
                    refine WL.load (v := .int .i64 (numR r18)) (ld1 (T := 2) (i := 0) hb40) (k := ?_)
                    refine WL.op (d := 145) (.agg #[.int .i64 7, .int .i64 0, .int .i64 0, .int .i64 0, .int .i64 0, .int .i64 0, .int .i64 0, .bool false, .int .i64 0, .int .i64 0, .int .i64 0, .int .i64 0, .int .i64 0, .int .i64 (numR r18), .slice none 0 0]) (k := ?_)
                    refine WL.op (d := 146) (.bool false) (k := ?_)
                    refine WL.op (d := 147) (gotV 7 GOp.zero 0 0 (numR r18) none 0 0 false) (k := ?_)
                    refine WL.store (v := gotV 7 GOp.zero 0 0 (numR r18) none 0 0 false) (i := 0) (cs' := (Value.cells (gotV 7 GOp.zero 0 0 (numR r18) none 0 0 false))) hb4 (k := fun w266 hb267 k268 => ?_)
                    replace hb40 := k268.heap hb40 (Ne.symm n13)
                    replace K := K.trans' k268 (fun i hi e => absurd (e ▸ hi) (Nat.not_lt.2 z6))
                    clear hb4
                    refine WL.nil ?_
                    refine WX.seqN ?_
                    refine WC.ret ?_
                    refine WX.blockR ?_
                    refine WX.seqR ?_
                    refine WX.ret (rs := [.cell 2 53]) [gotV 7 GOp.zero 0 0 (numR r18) none 0 0 false] (gotV 7 GOp.zero 0 0 (numR r18) none 0 0 false) ⟨⟨_, (by kernel_rfl), ldN (T := 53) (i := 0) (m := 16) (l := (Value.cells (gotV 7 GOp.zero 0 0 (numR r18) none 0 0 false)).toList) hb267⟩, trivial⟩ (k := ?_)
                    exact ⟨(⟨⟨7, (⟨0, ⟨0, 0, 0, 0, 0⟩, false, 0, 0, 0⟩ : GOp), 0, 0, (numR r18), []⟩, none, 0⟩ : GCmd), false, rfl, OwAt.nil, (by simp [blk]), (q_one_no (G := gFail) (kw := kFail) (hr217.trans (congrArg some ph265)) qb_fail (by omega)), (by simp), K⟩
                  · have ph265 := of_decide_eq_false h265
                    refine WC.seq ?_
                    refine WC.region ?_
                    refine WL.opE (d := 149) (.bool (ByteArray.toList ⟨(r216).toArray⟩ == ByteArray.toList ⟨([113, 117, 101, 114, 121]).toArray⟩)) (v := .bool (decide (r216 = [113, 117, 101, 114, 121]))) (str_eql _ _) (k := ?_)
                    refine WL.op (d := 148) (.bool (decide (r216 = [113, 117, 101, 114, 121]))) (k := ?_)
                    refine WL.nil ?_
                    refine WX.seqN ?_
                    refine WC.cond (b := decide (r216 = [113, 117, 101, 114, 121])) (ht := fun h269 => ?_) (hf := fun h269 => ?_)
                    · have ph269 := of_decide_eq_true h269
                      refine WC.seq ?_
                      refine WC.region ?_
                      refine WL.op (d := 150) (.slice (some ⟨b7, 0, none⟩) 2 2) (k := ?_)
                      refine WL.op (d := 151) (.pointer (some ⟨b7, 0, none⟩)) (k := ?_)
                      refine WL.load (v := .int .i64 (numR r18)) (ld1 (T := 2) (i := 0) hb40) (k := ?_)
                      refine WL.op (d := 153) (.agg #[.int .i64 5, .int .i64 0, .int .i64 0, .int .i64 0, .int .i64 0, .int .i64 0, .int .i64 0, .bool false, .int .i64 0, .int .i64 0, .int .i64 0, .int .i64 (numR r18), .int .i64 0, .int .i64 0, .slice none 0 0]) (k := ?_)
                      refine WL.op (d := 154) (.bool false) (k := ?_)
                      refine WL.op (d := 155) (gotV 5 GOp.zero (numR r18) 0 0 none 0 0 false) (k := ?_)
                      refine WL.store (v := gotV 5 GOp.zero (numR r18) 0 0 none 0 0 false) (i := 0) (cs' := (Value.cells (gotV 5 GOp.zero (numR r18) 0 0 none 0 0 false))) hb4 (k := fun w270 hb271 k272 => ?_)
                      replace hb40 := k272.heap hb40 (Ne.symm n13)
                      replace K := K.trans' k272 (fun i hi e => absurd (e ▸ hi) (Nat.not_lt.2 z6))
                      clear hb4
                      refine WL.nil ?_
                      refine WX.seqN ?_
                      refine WC.ret ?_
                      refine WX.blockR ?_
                      refine WX.seqR ?_
                      refine WX.ret (rs := [.cell 2 53]) [gotV 5 GOp.zero (numR r18) 0 0 none 0 0 false] (gotV 5 GOp.zero (numR r18) 0 0 none 0 0 false) ⟨⟨_, (by kernel_rfl), ldN (T := 53) (i := 0) (m := 16) (l := (Value.cells (gotV 5 GOp.zero (numR r18) 0 0 none 0 0 false)).toList) hb271⟩, trivial⟩ (k := ?_)
                      exact ⟨(⟨⟨5, (⟨0, ⟨0, 0, 0, 0, 0⟩, false, 0, 0, 0⟩ : GOp), (numR r18), 0, 0, []⟩, none, 0⟩ : GCmd), false, rfl, OwAt.nil, (by simp [blk]), (q_one_no (G := gQuery) (kw := kQuery) (hr217.trans (congrArg some ph269)) qb_query (by omega)), (by simp), K⟩
                    · have ph269 := of_decide_eq_false h269
                      refine WC.seq ?_
                      refine WC.region ?_
                      refine WL.opE (d := 157) (.bool (ByteArray.toList ⟨(r216).toArray⟩ == ByteArray.toList ⟨([115, 110, 97, 112, 115, 104, 111, 116]).toArray⟩)) (v := .bool (decide (r216 = [115, 110, 97, 112, 115, 104, 111, 116]))) (str_eql _ _) (k := ?_)
                      refine WL.op (d := 156) (.bool (decide (r216 = [115, 110, 97, 112, 115, 104, 111, 116]))) (k := ?_)
                      refine WL.nil ?_
                      refine WX.seqN ?_
                      refine WC.cond (b := decide (r216 = [115, 110, 97, 112, 115, 104, 111, 116])) (ht := fun h273 => ?_) (hf := fun h273 => ?_)
                      · have ph273 := of_decide_eq_true h273
                        refine WC.seq ?_
                        refine WC.region ?_
                        refine WL.op (d := 158) (.agg #[.int .i64 6, .int .i64 0, .int .i64 0, .int .i64 0, .int .i64 0, .int .i64 0, .int .i64 0, .bool false, .int .i64 0, .int .i64 0, .int .i64 0, .int .i64 0, .int .i64 0, .int .i64 0, .slice none 0 0]) (k := ?_)
                        refine WL.op (d := 159) (.slice A ws.length cp) (k := ?_)
                        refine WL.op (d := 160) (.int .i64 (ws.length : Int)) (k := ?_)
                        refine WL.op (d := 161) (.bool ((ws.length : Int) == 1)) (k := ?_)
                        refine WL.op (d := 162) (gotV 6 GOp.zero 0 0 0 none 0 0 ((ws.length : Int) == 1)) (k := ?_)
                        refine WL.store (v := gotV 6 GOp.zero 0 0 0 none 0 0 ((ws.length : Int) == 1)) (i := 0) (cs' := (Value.cells (gotV 6 GOp.zero 0 0 0 none 0 0 ((ws.length : Int) == 1)))) hb4 (k := fun w274 hb275 k276 => ?_)
                        replace hb40 := k276.heap hb40 (Ne.symm n13)
                        replace K := K.trans' k276 (fun i hi e => absurd (e ▸ hi) (Nat.not_lt.2 z6))
                        clear hb4
                        refine WL.nil ?_
                        refine WX.seqN ?_
                        refine WC.ret ?_
                        refine WX.blockR ?_
                        refine WX.seqR ?_
                        refine WX.ret (rs := [.cell 2 53]) [gotV 6 GOp.zero 0 0 0 none 0 0 ((ws.length : Int) == 1)] (gotV 6 GOp.zero 0 0 0 none 0 0 ((ws.length : Int) == 1)) ⟨⟨_, (by kernel_rfl), ldN (T := 53) (i := 0) (m := 16) (l := (Value.cells (gotV 6 GOp.zero 0 0 0 none 0 0 ((ws.length : Int) == 1))).toList) hb275⟩, trivial⟩ (k := ?_)
                        exact ⟨(⟨⟨6, (⟨0, ⟨0, 0, 0, 0, 0⟩, false, 0, 0, 0⟩ : GOp), 0, 0, 0, []⟩, none, 0⟩ : GCmd), (ws.length : Int) == 1, rfl, OwAt.nil, (by simp [blk]), (q_nil (kw := kSnapshot) (hr217.trans (congrArg some ph273)) qb_snap), (by simp), K⟩
                      · have ph273 := of_decide_eq_false h273
                        refine WC.seq ?_
                        refine WC.region ?_
                        refine WL.opE (d := 164) (.bool (ByteArray.toList ⟨(r216).toArray⟩ == ByteArray.toList ⟨([115, 116, 97, 114, 116]).toArray⟩)) (v := .bool (decide (r216 = [115, 116, 97, 114, 116]))) (str_eql _ _) (k := ?_)
                        refine WL.op (d := 163) (.bool (decide (r216 = [115, 116, 97, 114, 116]))) (k := ?_)
                        refine WL.nil ?_
                        refine WX.seqN ?_
                        refine WC.cond (b := decide (r216 = [115, 116, 97, 114, 116])) (ht := fun h277 => ?_) (hf := fun h277 => ?_)
                        · have ph277 := of_decide_eq_true h277
                          refine WC.seq ?_
                          refine WC.region ?_
                          refine WL.op (d := 165) (.agg #[.int .i64 9, .int .i64 0, .int .i64 0, .int .i64 0, .int .i64 0, .int .i64 0, .int .i64 0, .bool false, .int .i64 0, .int .i64 0, .int .i64 0, .int .i64 0, .int .i64 0, .int .i64 0, .slice none 0 0]) (k := ?_)
                          refine WL.op (d := 166) (.slice A ws.length cp) (k := ?_)
                          refine WL.op (d := 167) (.int .i64 (ws.length : Int)) (k := ?_)
                          refine WL.op (d := 168) (.bool ((ws.length : Int) == 1)) (k := ?_)
                          refine WL.op (d := 169) (gotV 9 GOp.zero 0 0 0 none 0 0 ((ws.length : Int) == 1)) (k := ?_)
                          refine WL.store (v := gotV 9 GOp.zero 0 0 0 none 0 0 ((ws.length : Int) == 1)) (i := 0) (cs' := (Value.cells (gotV 9 GOp.zero 0 0 0 none 0 0 ((ws.length : Int) == 1)))) hb4 (k := fun w278 hb279 k280 => ?_)
                          replace hb40 := k280.heap hb40 (Ne.symm n13)
                          replace K := K.trans' k280 (fun i hi e => absurd (e ▸ hi) (Nat.not_lt.2 z6))
                          clear hb4
                          refine WL.nil ?_
                          refine WX.seqN ?_
                          refine WC.ret ?_
                          refine WX.blockR ?_
                          refine WX.seqR ?_
                          refine WX.ret (rs := [.cell 2 53]) [gotV 9 GOp.zero 0 0 0 none 0 0 ((ws.length : Int) == 1)] (gotV 9 GOp.zero 0 0 0 none 0 0 ((ws.length : Int) == 1)) ⟨⟨_, (by kernel_rfl), ldN (T := 53) (i := 0) (m := 16) (l := (Value.cells (gotV 9 GOp.zero 0 0 0 none 0 0 ((ws.length : Int) == 1))).toList) hb279⟩, trivial⟩ (k := ?_)
                          exact ⟨(⟨⟨9, (⟨0, ⟨0, 0, 0, 0, 0⟩, false, 0, 0, 0⟩ : GOp), 0, 0, 0, []⟩, none, 0⟩ : GCmd), (ws.length : Int) == 1, rfl, OwAt.nil, (by simp [blk]), (q_nil (kw := kStart) (hr217.trans (congrArg some ph277)) qb_start), (by simp), K⟩
                        · have ph277 := of_decide_eq_false h277
                          refine WC.seq ?_
                          refine WC.region ?_
                          refine WL.opE (d := 171) (.bool (ByteArray.toList ⟨(r216).toArray⟩ == ByteArray.toList ⟨([99, 114, 97, 115, 104]).toArray⟩)) (v := .bool (decide (r216 = [99, 114, 97, 115, 104]))) (str_eql _ _) (k := ?_)
                          refine WL.op (d := 170) (.bool (decide (r216 = [99, 114, 97, 115, 104]))) (k := ?_)
                          refine WL.nil ?_
                          refine WX.seqN ?_
                          refine WC.cond (b := decide (r216 = [99, 114, 97, 115, 104])) (ht := fun h281 => ?_) (hf := fun h281 => ?_)
                          · have ph281 := of_decide_eq_true h281
                            refine WC.seq ?_
                            refine WC.region ?_
                            refine WL.op (d := 172) (.slice A ws.length cp) (k := ?_)
                            have hs282 := SlAt.cutD (a := 1) (c := cp) hA (by omega) (by omega)
                            refine WL.cut (d := 173) (vx := .slice A ws.length cp) (lo' := (some (.int .i64 1))) (hi' := none) (mx' := none) (v := .slice (cutA A cp 1 1) ((List.drop 1 ws).length) (cp - 1)) (run_cutSl (a := 1) (b := ws.length) (c := cp) (m := 1) (E := 9) (by kernel_rfl) (by kernel_rfl) (.inl ⟨rfl, rfl⟩) (.inl ⟨rfl, rfl, rfl⟩) (.inr ⟨_, _, rfl, by omega⟩) (by omega) (by omega) rfl (by simp <;> omega) (by omega)) (k := ?_)
                            refine WL.callG (d := 174) (f := 50) (args := #[.slice (cutA A cp 1 1) ((List.drop 1 ws).length) (cp - 1)]) (u25fates_c (cp := (cp - 1)) (hs282.adds K) (by simp; omega) (fun y hy => hx y (List.mem_of_mem_drop hy))) (k := fun e_ w283 h_ => ?_)
                            obtain ⟨g284, is285, rfl, ho286, ol287, hq288, hl289, k290⟩ := h_
                            refine ⟨_, rfl, ?_⟩
                            have ol291 := fun i h => Nat.le_trans K.size (ol287 i h)
                            replace hb4 := k290.heap hb4 id
                            replace hb40 := k290.heap hb40 id
                            replace K := K.trans (k290.any _)
                            clear ol287
                            refine WL.store (v := gotV g284.p.kind g284.p.op g284.p.id g284.p.work g284.p.n g284.A g284.p.fs.length g284.cap is285) (i := 0) (cs' := (Value.cells (gotV g284.p.kind g284.p.op g284.p.id g284.p.work g284.p.n g284.A g284.p.fs.length g284.cap is285))) hb4 (k := fun w292 hb293 k294 => ?_)
                            replace hb40 := k294.heap hb40 (Ne.symm n13)
                            replace ho286 := ho286.keeps k294 (fun i hi e => (ho286.offT hb4 (by decide)) (e ▸ hi))
                            replace K := K.trans' k294 (fun i hi e => absurd (e ▸ hi) (Nat.not_lt.2 z6))
                            clear hb4
                            refine WL.nil ?_
                            refine WX.seqN ?_
                            refine WC.ret ?_
                            refine WX.blockR ?_
                            refine WX.seqR ?_
                            refine WX.ret (rs := [.cell 2 53]) [gotV g284.p.kind g284.p.op g284.p.id g284.p.work g284.p.n g284.A g284.p.fs.length g284.cap is285] (gotV g284.p.kind g284.p.op g284.p.id g284.p.work g284.p.n g284.A g284.p.fs.length g284.cap is285) ⟨⟨_, (by kernel_rfl), ldN (T := 53) (i := 0) (m := 16) (l := (Value.cells (gotV g284.p.kind g284.p.op g284.p.id g284.p.work g284.p.n g284.A g284.p.fs.length g284.cap is285)).toList) hb293⟩, trivial⟩ (k := ?_)
                            exact ⟨g284, is285, rfl, ho286, ol291, (by rw [ws_cons (hr217.trans (congrArg some ph281) : ws[0]? = some kCrash)]; exact hq288), (by simp only [List.length_cons, List.length_drop] at hl289; omega), K⟩
                          · have ph281 := of_decide_eq_false h281
                            refine WC.skip ?_
                            refine WX.blockN ?_
                            refine WX.seqN ?_
                            refine WC.seq ?_
                            refine WC.region ?_
                            refine WL.op (d := 175) (gotV 0 GOp.zero 0 0 0 none 0 0 false) (k := ?_)
                            refine WL.store (v := gotV 0 GOp.zero 0 0 0 none 0 0 false) (i := 0) (cs' := (Value.cells (gotV 0 GOp.zero 0 0 0 none 0 0 false))) hb4 (k := fun w295 hb296 k297 => ?_)
                            replace hb40 := k297.heap hb40 (Ne.symm n13)
                            replace K := K.trans' k297 (fun i hi e => absurd (e ▸ hi) (Nat.not_lt.2 z6))
                            clear hb4
                            refine WL.nil ?_
                            refine WX.seqN ?_
                            refine WC.ret ?_
                            refine WX.ret (rs := [.cell 2 53]) [gotV 0 GOp.zero 0 0 0 none 0 0 false] (gotV 0 GOp.zero 0 0 0 none 0 0 false) ⟨⟨_, (by kernel_rfl), ldN (T := 53) (i := 0) (m := 16) (l := (Value.cells (gotV 0 GOp.zero 0 0 0 none 0 0 false)).toList) hb296⟩, trivial⟩ (k := ?_)
                            exact ⟨(⟨⟨0, (⟨0, ⟨0, 0, 0, 0, 0⟩, false, 0, 0, 0⟩ : GOp), 0, 0, 0, []⟩, none, 0⟩ : GCmd), false, rfl, OwAt.nil, (by simp [blk]), (q_other hr217 (fun k_ => by rcases k_ with k_ | k_ | k_ | k_ | k_ | k_ | k_ | k_ <;> first | exact ph245 k_ | exact ph253 k_ | exact ph261 k_ | exact ph265 k_ | exact ph269 k_ | exact ph273 k_ | exact ph277 k_ | exact ph281 k_) (fun k_ => k_.elim ph221 ph225) ph229 ph233 ph241), (by simp), K⟩
end Go.Proofs.YtoeinhlmkpgjhaaGreatDoor
namespace Go.Proofs.YtoeinhlmkpgjhaaGreatDoor
open Go.RowKit
set_option linter.unusedVariables false
set_option linter.unusedSimpArgs false
theorem u25command_c {A : Option Addr} {cp : Nat} {ws : Words} {w : World} (hA : SlAt strC 1 9 A ws w) (hn : ws.length ≤ 1000000) (hx : ∀ x ∈ ws, x.length ≤ 1000000) (h0 : 0 < ws.length) (hc1 : ws.length ≤ cp) (hc2 : cp ≤ 9223372036854775807) : Calls Tryz.prog 25 #[.slice A ws.length cp] w (GotR ws w) := by
  by_cases h1 : ws.length = 1
  · exact u25command_1 hA hn hx h0 hc1 hc2 h1
  · by_cases h2 : ws.length = 2
    · exact u25command_2 hA hn hx h0 hc1 hc2 h2
    · exact u25command_3 hA hn hx h0 hc1 hc2 (by omega)
end Go.Proofs.YtoeinhlmkpgjhaaGreatDoor
namespace Go.Proofs.YtoeinhlmkpgjhaaGreatDoor
open Go.RowKit
set_option linter.unusedVariables false
set_option linter.unusedSimpArgs false
set_option maxRecDepth 100000 in
set_option maxHeartbeats 4000000 in
theorem u23SameAll_c {A : Option Addr} {cp : Nat} {xs : List GCmd} {w : World} (hA : SlAt cmdC 15 39 A xs w) (hF : Fts 1000000000 xs w) (hn : xs.length ≤ 1000000000) {B : Option Addr} {cq : Nat} {ys : List GCmd} (hB : SlAt cmdC 15 39 B ys w) (hG : Fts 1000000000 ys w) (hm : ys.length ≤ 1000000000) : Calls Tryz.prog 9 #[.slice A xs.length cp, .slice B ys.length cq] w fun e w' => e = .returned (.bool (decide (xs.map GCmd.p = ys.map GCmd.p))) ∧ Adds w w' := by
  have K : Keeps (fun _ => False) w w := Keeps.refl _ w
  refine Calls.start Tryz.func9 rfl (by kernel_rfl) ?_
  refine WC.seq ?_
  refine WC.region ?_
  refine WL.op (d := 4) (.bool false) (k := ?_)
  refine WL.nil ?_
  refine WX.seqN ?_
  refine WC.seq ?_
  refine WC.seq ?_
  refine WC.region ?_
  refine WL.op (d := 7) (.slice A xs.length cp) (k := ?_)
  refine WL.op (d := 8) (.int .i64 (xs.length : Int)) (k := ?_)
  refine WL.op (d := 9) (.slice B ys.length cq) (k := ?_)
  refine WL.op (d := 10) (.int .i64 (ys.length : Int)) (k := ?_)
  refine WL.op (d := 11) (.bool ((xs.length : Int) != (ys.length : Int))) (k := ?_)
  refine WL.nil ?_
  refine WX.seqN ?_
  refine WC.cond (b := (xs.length : Int) != (ys.length : Int)) (ht := fun h1 => ?_) (hf := fun h1 => ?_)
  · have ph1 := bne_iff_ne.1 h1
    refine WC.seq ?_
    refine WC.region ?_
    refine WL.op (d := 4) (.bool false) (k := ?_)
    refine WL.nil ?_
    refine WX.seqN ?_
    refine WC.ret ?_
    refine WX.seqR ?_
    refine WX.ret (rs := [.tmp 4]) [.bool false] (.bool false) ⟨(by kernel_rfl), trivial⟩ (k := ?_)
    exact ⟨ret_bool (mapU_len (by omega)), K⟩
  · have ph1 := of_bne_false h1
    refine WC.skip ?_
    refine WX.seqN ?_
    refine WC.seq ?_
    refine WC.seq ?_
    refine WC.region ?_
    refine WL.op (d := 5) (.int .i64 0) (k := ?_)
    refine WL.nil ?_
    refine WX.seqN ?_
    refine WC.block ?_
    refine WC.loop (ι := Int) (fun (i : Int) => [(0, .slice A xs.length cp), (1, .slice B ys.length cq), (7, .slice A xs.length cp), (8, .int .i64 (xs.length : Int)), (9, .slice B ys.length cq), (10, .int .i64 (ys.length : Int)), (11, .bool ((xs.length : Int) != (ys.length : Int))), (5, .int .i64 i)]) (fun (i : Int) (w_ : World) => (Keeps (fun _ => False) w w_) ∧ (0 ≤ i) ∧ (i ≤ xs.length) ∧ (eqU (xs.map GCmd.p) (ys.map GCmd.p) i)) (fun (i : Int) => (xs.length - i).toNat) 0 ⟨(by kernel_rfl), (by kernel_rfl), (by kernel_rfl), (by kernel_rfl), (by kernel_rfl), (by kernel_rfl), (by kernel_rfl), (by kernel_rfl), trivial⟩ ⟨K, Int.le_refl 0, (by omega), eqU_zero _ _⟩ ?_
    rintro i w2 ⟨K, i0, i1, iu⟩
    refine WC.seq ?_
    refine WC.seq ?_
    refine WC.region ?_
    refine WL.op (d := 12) (.int .i64 i) (k := ?_)
    refine WL.op (d := 13) (.slice A xs.length cp) (k := ?_)
    refine WL.op (d := 14) (.int .i64 (xs.length : Int)) (k := ?_)
    refine WL.op (d := 15) (.bool (decide (i < (xs.length : Int)))) (k := ?_)
    refine WL.nil ?_
    refine WX.seqN ?_
    refine WC.cond (b := decide (i < (xs.length : Int))) (ht := fun h3 => ?_) (hf := fun h3 => ?_)
    · have ph3 := of_decide_eq_true h3
      refine WC.skip ?_
      refine WX.seqN ?_
      refine WC.seq ?_
      refine WC.block ?_
      refine WC.seq ?_
      refine WC.quiet (k := ?_)
      refine WQ.op (d := 18) (.slice A xs.length cp) (k := ?_)
      refine WQ.op (d := 19) (.int .i64 i) (k := ?_)
      obtain ⟨b4, o5, r6, hr7, hA8, he9⟩ := SlAt.at hA (i := i) (by omega) (by omega)
      refine WQ.rw (t := 18) (v := .slice (some ⟨b4, o5, none⟩) xs.length cp) (congrArg (fun a => Value.slice a xs.length cp) hA8) (k := ?_)
      obtain ⟨hs10, hc11, hl12⟩ := fts_mem hF hr7
      refine WQ.idx (T := 24) (E := 39) (m := 15) (b := b4) (o := o5) (len := xs.length) (cap := cp) (i := i) (kk := .i64) (d := 20) (by omega) (by omega) (k := ?_)
      refine WQ.rw (t := 18) (v := .slice A xs.length cp) (congrArg (fun a => Value.slice a xs.length cp) (Eq.symm hA8)) (k := ?_)
      refine WQ.load (v := GCmd.val r6) (fun w_ k_ => ((he9.adds K).adds k_).ldW (T := 39)) (k := ?_)
      refine WQ.op (d := 22) (.slice B ys.length cq) (k := ?_)
      refine WQ.op (d := 23) (.int .i64 i) (k := ?_)
      obtain ⟨b13, o14, r15, hr16, hA17, he18⟩ := SlAt.at hB (i := i) (by omega) (by omega)
      refine WQ.rw (t := 22) (v := .slice (some ⟨b13, o14, none⟩) ys.length cq) (congrArg (fun a => Value.slice a ys.length cq) hA17) (k := ?_)
      obtain ⟨hs19, hc20, hl21⟩ := fts_mem hG hr16
      refine WQ.idx (T := 24) (E := 39) (m := 15) (b := b13) (o := o14) (len := ys.length) (cap := cq) (i := i) (kk := .i64) (d := 24) (by omega) (by omega) (k := ?_)
      refine WQ.rw (t := 22) (v := .slice B ys.length cq) (congrArg (fun a => Value.slice a ys.length cq) (Eq.symm hA17)) (k := ?_)
      refine WQ.load (v := GCmd.val r15) (fun w_ k_ => ((he18.adds K).adds k_).ldW (T := 39)) (k := ?_)
      refine WQ.callG (d := 26) (f := 27) (args := #[GCmd.val r6, GCmd.val r15]) (v := .bool (decide (r6.p = r15.p))) (fun w_ k_ => u23Same_c (x := r6) (y := r15) ((hs10.adds K).adds k_) ((hs19.adds K).adds k_) (by omega) (by omega)) addsR (k := ?_)
      refine WQ.op (d := 6) (.bool (decide (r6.p = r15.p))) (k := ?_)
      refine WQ.nilX (fun w22 k23 => ?_)
      replace K := K.trans (k23.any _)
      refine WX.seqN ?_
      refine WC.seq ?_
      refine WC.region ?_
      refine WL.op (d := 27) (.bool (decide (r6.p = r15.p))) (k := ?_)
      refine WL.op (d := 28) (.bool (!(decide (r6.p = r15.p)))) (k := ?_)
      refine WL.nil ?_
      refine WX.seqN ?_
      refine WC.cond (b := !(decide (r6.p = r15.p))) (ht := fun h24 => ?_) (hf := fun h24 => ?_)
      · have h25 : (decide (r6.p = r15.p)) = false := Bool.not_inj (y := false) h24
        have ph25 := of_decide_eq_false h25
        refine WC.seq ?_
        refine WC.region ?_
        refine WL.op (d := 4) (.bool false) (k := ?_)
        refine WL.nil ?_
        refine WX.seqN ?_
        refine WC.ret ?_
        refine WX.blockR ?_
        refine WX.seqR ?_
        refine WX.seqR ?_
        refine WX.blockR ?_
        refine WX.seqR ?_
        refine WX.ret (rs := [.tmp 4]) [.bool false] (.bool false) ⟨(by kernel_rfl), trivial⟩ (k := ?_)
        exact ⟨ret_bool (eqU_bad (map_get hr7) (map_get hr16) ph25), K⟩
      · have h26 : (decide (r6.p = r15.p)) = true := Bool.not_inj (y := true) h24
        have ph26 := of_decide_eq_true h26
        refine WC.skip ?_
        refine WX.blockN ?_
        refine WX.seqN ?_
        refine WC.region ?_
        refine WL.op (d := 16) (.int .i64 i) (k := ?_)
        refine WL.opE (d := 17) (.int .i64 (IntKind.i64.wrap (i + 1))) (v := .int .i64 (i + 1)) (congrArg (Value.int .i64) (IntWalk.i64_in _ (by omega))) (k := ?_)
        refine WL.op (d := 5) (.int .i64 (i + 1)) (k := ?_)
        refine WL.nil ?_
        refine WX.round (i + 1) (by show (xs.length - (i + 1)).toNat < (xs.length - i).toNat; omega) ⟨(by kernel_rfl), (by kernel_rfl), (by kernel_rfl), (by kernel_rfl), (by kernel_rfl), (by kernel_rfl), (by kernel_rfl), (by kernel_rfl), trivial⟩ ⟨K, (by omega), (by omega), (eqU_succ i0 iu (map_get hr7) (map_get hr16) ph26)⟩
    · have ph3 := of_decide_eq_false h3
      refine WC.exit ?_
      refine WX.seqE ?_
      refine WX.seqE ?_
      refine WX.blockE ?_
      refine WX.seqN ?_
      refine WC.seq ?_
      refine WC.region ?_
      refine WL.op (d := 4) (.bool true) (k := ?_)
      refine WL.nil ?_
      refine WX.seqN ?_
      refine WC.ret ?_
      refine WX.ret (rs := [.tmp 4]) [.bool true] (.bool true) ⟨(by kernel_rfl), trivial⟩ (k := ?_)
      exact ⟨ret_bool (mapU_end (i := i) (by omega) (by omega) iu), K⟩
end Go.Proofs.YtoeinhlmkpgjhaaGreatDoor
namespace Go.Proofs.YtoeinhlmkpgjhaaGreatDoor
open Go.RowKit
set_option linter.unusedVariables false
set_option linter.unusedSimpArgs false
set_option maxRecDepth 100000 in
set_option maxHeartbeats 4000000 in
theorem u25Parse_c {l : List UInt8} (hl : l.length ≤ 900000) (w : World) : Calls Tryz.prog 8 #[.string ⟨l.toArray⟩] w (ParR l w) := by
  have K : Keeps (fun _ => False) w w := Keeps.refl _ w
  refine Calls.start Tryz.func8 rfl (by kernel_rfl) ?_
  refine WC.seq ?_
  refine WC.region ?_
  refine WL.op (d := 2) (.slice none 0 0) (k := ?_)
  refine WL.op (d := 3) (.int .i64 0) (k := ?_)
  refine WL.nil ?_
  refine WX.seqN ?_
  refine WC.seq ?_
  refine WC.region ?_
  refine WL.op (d := 4) (.slice none 0 0) (k := ?_)
  refine WL.nil ?_
  refine WX.seqN ?_
  refine WC.seq ?_
  refine WC.region ?_
  refine WL.op (d := 5) (.int .i64 1) (k := ?_)
  refine WL.nil ?_
  refine WX.seqN ?_
  refine WC.seq ?_
  refine WC.region ?_
  refine WL.op (d := 6) (.int .i64 0) (k := ?_)
  refine WL.nil ?_
  refine WX.seqN ?_
  refine WC.seq ?_
  refine WC.seq ?_
  refine WC.region ?_
  refine WL.op (d := 7) (.int .i64 0) (k := ?_)
  refine WL.nil ?_
  refine WX.seqN ?_
  refine WC.block ?_
  refine WC.loop (ι := Int × Int × Int × (List GCmd) × (Option Addr) × Nat) (fun (⟨i, fm, n, cs, Ao, co⟩ : Int × Int × Int × (List GCmd) × (Option Addr) × Nat) => [(0, .string ⟨(l).toArray⟩), (7, .int .i64 i), (6, .int .i64 fm), (5, .int .i64 n), (4, .slice Ao cs.length co)]) (fun (⟨i, fm, n, cs, Ao, co⟩ : Int × Int × Int × (List GCmd) × (Option Addr) × Nat) (w_ : World) => (Keeps (fun _ => False) w w_) ∧ (OwAt cmdC 15 39 Ao co cs w_) ∧ (∀ i, blk Ao = some i → w.heap.size ≤ i) ∧ (0 ≤ i) ∧ (i ≤ l.length + 1) ∧ (0 ≤ fm) ∧ (fm ≤ i) ∧ (1 ≤ n) ∧ (n ≤ i + 1) ∧ (lnJ l i fm n cs) ∧ ((cs.length : Int) ≤ i) ∧ (FtsO 64 cs w_)) (fun (⟨i, fm, n, cs, Ao, co⟩ : Int × Int × Int × (List GCmd) × (Option Addr) × Nat) => (l.length + 1 - i).toNat) (0, 0, 1, [], none, 0) ⟨(by kernel_rfl), (by kernel_rfl), (by kernel_rfl), (by kernel_rfl), (by kernel_rfl), trivial⟩ ⟨K, OwAt.nil, (by simp [blk]), Int.le_refl 0, (by omega), Int.le_refl 0, Int.le_refl 0, (by omega), (by omega), (lnJ_zero l), (by simp), FtsO.nil⟩ ?_
  rintro ⟨i, fm, n, cs, Ao, co⟩ w1 ⟨K, hb2, ol3, i0, i1, a0, a1, n0, n1, hj, hcl, hF⟩
  have pl_ : (List.drop fm.toNat (List.take i.toNat l)).length ≤ l.length := by simp; omega
  refine WC.seq ?_
  refine WC.seq ?_
  refine WC.region ?_
  refine WL.op (d := 11) (.int .i64 i) (k := ?_)
  refine WL.op (d := 12) (.string ⟨(l).toArray⟩) (k := ?_)
  refine WL.op (d := 13) (.int .i64 (l.length : Int)) (k := ?_)
  refine WL.op (d := 14) (.bool (decide (i ≤ (l.length : Int)))) (k := ?_)
  refine WL.nil ?_
  refine WX.seqN ?_
  refine WC.cond (b := decide (i ≤ (l.length : Int))) (ht := fun h4 => ?_) (hf := fun h4 => ?_)
  · have ph4 := of_decide_eq_true h4
    refine WC.skip ?_
    refine WX.seqN ?_
    refine WC.seq ?_
    refine WC.block ?_
    refine WC.seq ?_
    refine WC.seq ?_
    refine WC.region ?_
    refine WL.op (d := 17) (.int .i64 i) (k := ?_)
    refine WL.op (d := 18) (.string ⟨(l).toArray⟩) (k := ?_)
    refine WL.op (d := 19) (.int .i64 (l.length : Int)) (k := ?_)
    refine WL.op (d := 20) (.bool (decide (i < (l.length : Int)))) (k := ?_)
    refine WL.op (d := 21) (.bool (decide (i < (l.length : Int)))) (k := ?_)
    refine bsplit (decide (i < (l.length : Int))) (fun h5 => ?_) (fun h5 => ?_)
    · have ph5 := of_decide_eq_true h5
      refine WL.rw (t := 21) (v := .bool true) (congrArg Value.bool h5) (k := ?_)
      refine WL.op (d := 22) (.string ⟨(l).toArray⟩) (k := ?_)
      refine WL.op (d := 23) (.int .i64 i) (k := ?_)
      refine WL.strAt (T := 9) (l := l) (i := i) (kk := .i64) (d := 24) (by omega) (by first | omega | (simp; omega)) (by kernel_rfl) (by kernel_rfl) (by kernel_rfl) (by kernel_rfl) (by kernel_rfl) ?_
      have ub6 := u8_lt (List.getD l (i).toNat 0)
      refine WL.op (d := 25) (.bool (((List.getD l (i).toNat 0).toNat : Int) != 10)) (k := ?_)
      refine WL.op (d := 26) (.bool (((List.getD l (i).toNat 0).toNat : Int) != 10)) (k := ?_)
      refine WL.nil ?_
      refine WX.seqN ?_
      refine WC.cond (b := ((List.getD l (i).toNat 0).toNat : Int) != 10) (ht := fun h7 => ?_) (hf := fun h7 => ?_)
      · have ph7 := bne_iff_ne.1 h7
        refine WC.exit ?_
        refine WX.seqE ?_
        refine WX.blockE ?_
        refine WX.seqN ?_
        refine WC.region ?_
        refine WL.op (d := 15) (.int .i64 i) (k := ?_)
        refine WL.opE (d := 16) (.int .i64 (IntKind.i64.wrap (i + 1))) (v := .int .i64 (i + 1)) (congrArg (Value.int .i64) (IntWalk.i64_in _ (by omega))) (k := ?_)
        refine WL.op (d := 7) (.int .i64 (i + 1)) (k := ?_)
        refine WL.nil ?_
        refine WX.round (i + 1, fm, n, cs, Ao, co) (by show (l.length + 1 - (i + 1)).toNat < (l.length + 1 - i).toNat; omega) ⟨(by kernel_rfl), (by kernel_rfl), (by kernel_rfl), (by kernel_rfl), (by kernel_rfl), trivial⟩ ⟨K, hb2, ol3, (by omega), (by omega), (by omega), (by omega), (by omega), (by omega), (lnJ_skip hj a0 a1 (by omega) (by omega)), (by omega), hF⟩
      · have ph7 := of_bne_false h7
        refine WC.skip ?_
        refine WX.seqN ?_
        refine WC.seq ?_
        refine WC.region ?_
        refine WL.op (d := 27) (.string ⟨(l).toArray⟩) (k := ?_)
        refine WL.op (d := 28) (.int .i64 fm) (k := ?_)
        refine WL.op (d := 29) (.int .i64 i) (k := ?_)
        refine WL.cut (d := 30) (vx := .string ⟨(l).toArray⟩) (lo' := (some (.int .i64 fm))) (hi' := (some (.int .i64 i))) (mx' := none) (v := .string ⟨(List.drop fm.toNat (List.take i.toNat l)).toArray⟩) (run_cut (P := Tryz.prog) (w := w1) (lo := (some (.int .i64 fm))) (hi := (some (.int .i64 i))) (T := 9) (a := fm.toNat) (b := i.toNat) (l := l) (by kernel_rfl) (.inr ⟨_, _, rfl, by omega⟩) (.inr ⟨_, _, rfl, by omega⟩) (by first | omega | (simp; omega)) (by first | omega | (simp; omega))) (k := ?_)
        refine WL.callG (d := 31) (f := 24) (args := #[.string ⟨(List.drop fm.toNat (List.take i.toNat l)).toArray⟩]) (u25words_c (l := (List.drop fm.toNat (List.take i.toNat l))) (by first | omega | (simp; omega)) w1) (k := fun e_ w9 h_ => ?_)
        obtain ⟨A10, c11, rfl, ho12, k13, ol14⟩ := h_
        refine ⟨_, rfl, ?_⟩
        have ol15 := fun i h => Nat.le_trans K.size (ol14 i h)
        replace hb2 := hb2.adds k13
        replace hF := hF.adds k13
        replace K := K.trans (k13.any _)
        clear ol14
        have wl8 := wordsL_len (List.drop fm.toNat (List.take i.toNat l))
        refine WL.op (d := 8) (.slice A10 ((wordsL (List.drop fm.toNat (List.take i.toNat l))).length) c11) (k := ?_)
        refine WL.nil ?_
        refine WX.seqN ?_
        refine WC.seq ?_
        refine WC.seq ?_
        refine WC.region ?_
        refine WL.op (d := 32) (.slice A10 ((wordsL (List.drop fm.toNat (List.take i.toNat l))).length) c11) (k := ?_)
        refine WL.op (d := 33) (.int .i64 ((wordsL (List.drop fm.toNat (List.take i.toNat l))).length : Int)) (k := ?_)
        refine WL.op (d := 34) (.bool (decide (((wordsL (List.drop fm.toNat (List.take i.toNat l))).length : Int) > 0))) (k := ?_)
        refine WL.op (d := 35) (.bool (decide (((wordsL (List.drop fm.toNat (List.take i.toNat l))).length : Int) > 0))) (k := ?_)
        refine bsplit (decide (((wordsL (List.drop fm.toNat (List.take i.toNat l))).length : Int) > 0)) (fun h16 => ?_) (fun h16 => ?_)
        · have ph16 := of_decide_eq_true h16
          refine WL.rw (t := 35) (v := .bool true) (congrArg Value.bool h16) (k := ?_)
          refine WL.op (d := 36) (.slice A10 ((wordsL (List.drop fm.toNat (List.take i.toNat l))).length) c11) (k := ?_)
          obtain ⟨b17, o18, r19, hr20, hA21, he22⟩ := SlAt.at (ho12.sl ekStr) (i := 0) (by omega) (by omega)
          refine WL.rw (t := 36) (v := .slice (some ⟨b17, o18, none⟩) ((wordsL (List.drop fm.toNat (List.take i.toNat l))).length) c11) (congrArg (fun a => Value.slice a ((wordsL (List.drop fm.toNat (List.take i.toNat l))).length) c11) hA21) (k := ?_)
          have wn23 := wordsL_ne (List.mem_of_getElem? hr20)
          refine WL.idx (T := 43) (E := 9) (m := 1) (b := b17) (o := o18) (len := (wordsL (List.drop fm.toNat (List.take i.toNat l))).length) (cap := c11) (i := 0) (kk := .i64) (d := 37) (by omega) (by omega) (k := ?_)
          refine WL.rw (t := 36) (v := .slice A10 ((wordsL (List.drop fm.toNat (List.take i.toNat l))).length) c11) (congrArg (fun a => Value.slice a ((wordsL (List.drop fm.toNat (List.take i.toNat l))).length) c11) (Eq.symm hA21)) (k := ?_)
          refine WL.load (v := .string ⟨(r19).toArray⟩) (he22.ld0 (T := 9)) (k := ?_)
          refine WL.strAt (T := 9) (l := r19) (i := 0) (kk := .i64) (d := 39) (by omega) (by first | omega | (simp; omega)) (by kernel_rfl) (by kernel_rfl) (by kernel_rfl) (by kernel_rfl) (by kernel_rfl) ?_
          have ub24 := u8_lt (List.getD r19 (0 : Int).toNat 0)
          refine WL.op (d := 40) (.bool (((List.getD r19 (0 : Int).toNat 0).toNat : Int) != 59)) (k := ?_)
          refine WL.op (d := 41) (.bool (((List.getD r19 (0 : Int).toNat 0).toNat : Int) != 59)) (k := ?_)
          refine WL.nil ?_
          refine WX.seqN ?_
          refine WC.cond (b := ((List.getD r19 (0 : Int).toNat 0).toNat : Int) != 59) (ht := fun h25 => ?_) (hf := fun h25 => ?_)
          · have ph25 := bne_iff_ne.1 h25
            refine WC.seq ?_
            refine WC.region ?_
            refine WL.op (d := 42) (.slice A10 ((wordsL (List.drop fm.toNat (List.take i.toNat l))).length) c11) (k := ?_)
            refine WL.callG (d := 43) (f := 25) (args := #[.slice A10 ((wordsL (List.drop fm.toNat (List.take i.toNat l))).length) c11]) (u25command_c (cp := c11) (ho12.sl ekStr) (by omega) (fun y hy => Nat.le_trans (wordsL_le hy) (by omega)) (by omega) (OwAt.cap_leL ho12).1 (OwAt.cap_leL ho12).2) (k := fun e_ w26 h_ => ?_)
            obtain ⟨g27, is28, rfl, ho29, ol30, hq31, hl32, k33⟩ := h_
            refine ⟨_, rfl, ?_⟩
            have ol34 := fun i h => Nat.le_trans K.size (ol30 i h)
            replace hb2 := hb2.adds k33
            replace ho12 := ho12.adds k33
            replace he22 := he22.adds k33
            replace hF := hF.adds k33
            replace K := K.trans (k33.any _)
            clear ol30
            refine WL.new (d := 9) (T := 53) (Value.cells (gotV 0 GOp.zero 0 0 0 none 0 0 false)) (k := fun b35 w36 g37 hb38 k39 => ?_)
            have z40 := Nat.le_trans K.size g37
            have n41 := OwAt.off_new hb2 g37
            have n42 := OwAt.off_new ho12 g37
            have n43 := OwAt.off_new ho29 g37
            replace hb2 := hb2.adds k39
            replace ho12 := ho12.adds k39
            replace he22 := he22.adds k39
            replace ho29 := ho29.adds k39
            replace hF := hF.adds k39
            replace K := K.trans (k39.any _)
            refine WL.store (v := gotV g27.p.kind g27.p.op g27.p.id g27.p.work g27.p.n g27.A g27.p.fs.length g27.cap is28) (i := 0) (cs' := (Value.cells (gotV g27.p.kind g27.p.op g27.p.id g27.p.work g27.p.n g27.A g27.p.fs.length g27.cap is28))) hb38 (k := fun w44 hb45 k46 => ?_)
            replace hb2 := hb2.keeps k46 (fun i hi e => (n41) (e ▸ hi))
            replace ho12 := ho12.keeps k46 (fun i hi e => (n42) (e ▸ hi))
            replace ho29 := ho29.keeps k46 (fun i hi e => (n43) (e ▸ hi))
            replace hF := hF.keepsT k46 hb38 (by decide)
            replace K := K.trans' k46 (fun i hi e => absurd (e ▸ hi) (Nat.not_lt.2 z40))
            clear hb38
            refine WL.nil ?_
            refine WX.seqN ?_
            refine WC.seq ?_
            refine WC.region ?_
            refine WL.op (d := 44) (.pointer (some ⟨b35, 0, none⟩)) (k := ?_)
            refine WL.load (v := GCmd.val g27) (ldN (T := 39) (i := 0) (m := 15) (l := (Value.cells (GCmd.val g27)).toList) hb45) (k := ?_)
            refine WL.callG (d := 46) (f := 26) (args := #[GCmd.val g27]) (u23Check_c (c := g27) (ho29.sl ekFate) (by first | omega | (simp; done) | (simp; omega))) (k := fun e_ w47 h_ => ⟨.bool (cokB g27.p), h_.1, ?_⟩)
            have k48 := h_.2; clear h_
            replace hb2 := hb2.adds k48
            replace ho12 := ho12.adds k48
            replace ho29 := ho29.adds k48
            replace hb45 := k48.heap hb45 id
            replace hF := hF.adds k48
            replace K := K.trans (k48.any _)
            refine WL.op (d := 10) (.bool (cokB g27.p)) (k := ?_)
            refine WL.nil ?_
            refine WX.seqN ?_
            refine WC.seq ?_
            refine WC.seq ?_
            refine WC.region ?_
            refine WL.op (d := 47) (.pointer (some ⟨b35, 15, none⟩)) (k := ?_)
            refine WL.load (v := .bool is28) (ld1 (T := 4) (i := 15) hb45) (k := ?_)
            refine WL.op (d := 49) (.bool (!(is28))) (k := ?_)
            refine WL.op (d := 50) (.bool (!(is28))) (k := ?_)
            refine bsplit (!(is28)) (fun h49 => ?_) (fun h49 => ?_)
            · have h50 : (is28) = false := Bool.not_inj (y := false) h49
              refine WL.rw (t := 50) (v := .bool true) (congrArg Value.bool h49) (k := ?_)
              refine WL.skip (d := 51) (k := ?_)
              refine WL.skip (d := 52) (k := ?_)
              refine WL.op (d := 53) (.bool true) (k := ?_)
              refine WL.nil ?_
              refine WX.seqN ?_
              refine WC.condT (k := ?_)
              refine WC.seq ?_
              refine WC.region ?_
              refine WL.op (d := 54) (.int .i64 n) (k := ?_)
              refine WL.op (d := 2) (.slice none 0 0) (k := ?_)
              refine WL.op (d := 3) (.int .i64 n) (k := ?_)
              refine WL.nil ?_
              refine WX.seqN ?_
              refine WC.ret ?_
              refine WX.seqR ?_
              refine WX.seqR ?_
              refine WX.blockR ?_
              refine WX.seqR ?_
              refine WX.seqR ?_
              refine WX.blockR ?_
              refine WX.seqR ?_
              refine WX.ret (rs := [.tmp 2, .tmp 3]) [.slice none 0 0, .int .i64 n] (.tuple #[.slice none 0 0, .int .i64 n]) ⟨(by kernel_rfl), (by kernel_rfl), trivial⟩ (k := ?_)
              exact ⟨[], none, 0, n, rfl, OwAt.nil, FtsO.nil, (lnJ_go hj a0 a1 (by omega) (by omega)).1 ((lineQ hr20 (by show ¬ (List.getD r19 (Int.toNat 0) 0).toNat = 59; omega) hq31).2 (.inl h50)), K, by simp [blk]⟩
            have h51 : (is28) = true := Bool.not_inj (y := true) h49
            refine WL.rw (t := 50) (v := .bool false) (congrArg Value.bool h49) (k := ?_)
            refine WL.op (d := 51) (.bool (cokB g27.p)) (k := ?_)
            refine WL.op (d := 52) (.bool (!(cokB g27.p))) (k := ?_)
            refine WL.op (d := 53) (.bool (!(cokB g27.p))) (k := ?_)
            refine WL.nil ?_
            refine WX.seqN ?_
            refine WC.cond (b := !(cokB g27.p)) (ht := fun h52 => ?_) (hf := fun h52 => ?_)
            · have h53 : (cokB g27.p) = false := Bool.not_inj (y := false) h52
              have ph53 := cok_f h53
              refine WC.seq ?_
              refine WC.region ?_
              refine WL.op (d := 54) (.int .i64 n) (k := ?_)
              refine WL.op (d := 2) (.slice none 0 0) (k := ?_)
              refine WL.op (d := 3) (.int .i64 n) (k := ?_)
              refine WL.nil ?_
              refine WX.seqN ?_
              refine WC.ret ?_
              refine WX.seqR ?_
              refine WX.seqR ?_
              refine WX.blockR ?_
              refine WX.seqR ?_
              refine WX.seqR ?_
              refine WX.blockR ?_
              refine WX.seqR ?_
              refine WX.ret (rs := [.tmp 2, .tmp 3]) [.slice none 0 0, .int .i64 n] (.tuple #[.slice none 0 0, .int .i64 n]) ⟨(by kernel_rfl), (by kernel_rfl), trivial⟩ (k := ?_)
              exact ⟨[], none, 0, n, rfl, OwAt.nil, FtsO.nil, (lnJ_go hj a0 a1 (by omega) (by omega)).1 ((lineQ hr20 (by show ¬ (List.getD r19 (Int.toNat 0) 0).toNat = 59; omega) hq31).2 (.inr h53)), K, by simp [blk]⟩
            · have h54 : (cokB g27.p) = true := Bool.not_inj (y := true) h52
              have ph54 := cok_t h54
              refine WC.skip ?_
              refine WX.seqN ?_
              refine WC.region ?_
              refine WL.op (d := 55) (.slice Ao cs.length co) (k := ?_)
              refine WL.op (d := 56) (.pointer (some ⟨b35, 0, none⟩)) (k := ?_)
              refine WL.load (v := GCmd.val g27) (ldN (T := 39) (i := 0) (m := 15) (l := (Value.cells (GCmd.val g27)).toList) hb45) (k := ?_)
              refine WL.newF (d := 58) (T := 39) (Value.cells (GCmd.val g27)) (fun b => .slice (some ⟨b, 0, none⟩) 1 1) (k := fun b55 w56 g57 hb58 k59 => ?_)
              have z60 := Nat.le_trans K.size g57
              have n61 := OwAt.off_new hb2 g57
              have n62 := OwAt.off_new ho12 g57
              have n63 := OwAt.off_new ho29 g57
              have n64 : b35 ≠ b55 := Nat.ne_of_lt (Nat.lt_of_lt_of_le (lt_of_heap hb45) g57)
              replace hb2 := hb2.adds k59
              replace ho12 := ho12.adds k59
              replace ho29 := ho29.adds k59
              replace hb45 := k59.heap hb45 id
              replace hF := hF.adds k59
              replace K := K.trans (k59.any _)
              refine WL.append (d := 59) (T := 24) (cl := cmdC) (xs := cs) (ys := [g27]) (c := 1) ekCmd hb2 (SlAt.of_lit (ys := [g27]) ekCmd hb58 (by kernel_rfl)) (by first | omega | (simp; omega)) (k := fun A65 c66 w67 ho68 k69 n70 => ?_)
              have ol71 := olink_step ol3 K n70
              have n72 := off_step n70 n41 (lt_of_heap hb45)
              replace ho12 := ho12.keeps k69 (OwAt.offOw ho12 hb2 (by decide))
              replace ho29 := ho29.keeps k69 (OwAt.offOw ho29 hb2 (by decide))
              replace hb45 := k69.heap hb45 n41
              replace hF := hF.keepsOw k69 hb2 (by decide)
              replace K := K.trans' k69 (fun i hi e => absurd hi (Nat.not_lt.2 (ol3 i e)))
              clear hb2
              refine WL.op (d := 4) (.slice A65 ((cs ++ [g27]).length) c66) (k := ?_)
              refine WL.nil ?_
              refine WX.seqN ?_
              refine WC.seq ?_
              refine WC.region ?_
              refine WL.op (d := 60) (.int .i64 i) (k := ?_)
              refine WL.opE (d := 61) (.int .i64 (IntKind.i64.wrap (i + 1))) (v := .int .i64 (i + 1)) (congrArg (Value.int .i64) (IntWalk.i64_in _ (by omega))) (k := ?_)
              refine WL.op (d := 6) (.int .i64 (i + 1)) (k := ?_)
              refine WL.nil ?_
              refine WX.seqN ?_
              refine WC.region ?_
              refine WL.op (d := 62) (.int .i64 n) (k := ?_)
              refine WL.opE (d := 63) (.int .i64 (IntKind.i64.wrap (n + 1))) (v := .int .i64 (n + 1)) (congrArg (Value.int .i64) (IntWalk.i64_in _ (by omega))) (k := ?_)
              refine WL.op (d := 5) (.int .i64 (n + 1)) (k := ?_)
              refine WL.nil ?_
              refine WX.blockN ?_
              refine WX.seqN ?_
              refine WC.region ?_
              refine WL.op (d := 15) (.int .i64 i) (k := ?_)
              refine WL.opE (d := 16) (.int .i64 (IntKind.i64.wrap (i + 1))) (v := .int .i64 (i + 1)) (congrArg (Value.int .i64) (IntWalk.i64_in _ (by omega))) (k := ?_)
              refine WL.op (d := 7) (.int .i64 (i + 1)) (k := ?_)
              refine WL.nil ?_
              refine WX.round (i + 1, i + 1, n + 1, cs ++ [g27], A65, c66) (by show (l.length + 1 - (i + 1)).toNat < (l.length + 1 - i).toNat; omega) ⟨(by kernel_rfl), (by kernel_rfl), (by kernel_rfl), (by kernel_rfl), (by kernel_rfl), trivial⟩ ⟨K, ho68, ol71, (by omega), (by omega), (by omega), (by omega), (by omega), (by omega), ((lnJ_go hj a0 a1 (by omega) (by omega)).2.2 g27 ((lineQ hr20 (by show ¬ (List.getD r19 (Int.toNat 0) 0).toNat = 59; omega) hq31).1 h51 h54)), (by simp; omega), (FtsO.snoc (r := g27) hF ho29 (ok_fs (cok_t h54)))⟩
          · have ph25 := of_bne_false h25
            refine WC.skip ?_
            refine WX.seqN ?_
            refine WC.seq ?_
            refine WC.region ?_
            refine WL.op (d := 60) (.int .i64 i) (k := ?_)
            refine WL.opE (d := 61) (.int .i64 (IntKind.i64.wrap (i + 1))) (v := .int .i64 (i + 1)) (congrArg (Value.int .i64) (IntWalk.i64_in _ (by omega))) (k := ?_)
            refine WL.op (d := 6) (.int .i64 (i + 1)) (k := ?_)
            refine WL.nil ?_
            refine WX.seqN ?_
            refine WC.region ?_
            refine WL.op (d := 62) (.int .i64 n) (k := ?_)
            refine WL.opE (d := 63) (.int .i64 (IntKind.i64.wrap (n + 1))) (v := .int .i64 (n + 1)) (congrArg (Value.int .i64) (IntWalk.i64_in _ (by omega))) (k := ?_)
            refine WL.op (d := 5) (.int .i64 (n + 1)) (k := ?_)
            refine WL.nil ?_
            refine WX.blockN ?_
            refine WX.seqN ?_
            refine WC.region ?_
            refine WL.op (d := 15) (.int .i64 i) (k := ?_)
            refine WL.opE (d := 16) (.int .i64 (IntKind.i64.wrap (i + 1))) (v := .int .i64 (i + 1)) (congrArg (Value.int .i64) (IntWalk.i64_in _ (by omega))) (k := ?_)
            refine WL.op (d := 7) (.int .i64 (i + 1)) (k := ?_)
            refine WL.nil ?_
            refine WX.round (i + 1, i + 1, n + 1, cs, Ao, co) (by show (l.length + 1 - (i + 1)).toNat < (l.length + 1 - i).toNat; omega) ⟨(by kernel_rfl), (by kernel_rfl), (by kernel_rfl), (by kernel_rfl), (by kernel_rfl), trivial⟩ ⟨K, hb2, ol3, (by omega), (by omega), (by omega), (by omega), (by omega), (by omega), ((lnJ_go hj a0 a1 (by omega) (by omega)).2.1 (lineC_c hr20 (by show (List.getD r19 (Int.toNat 0) 0).toNat = 59; omega))), (by omega), hF⟩
        have ph16 := of_decide_eq_false h16
        refine WL.rw (t := 35) (v := .bool false) (congrArg Value.bool h16) (k := ?_)
        refine WL.skip (d := 36) (k := ?_)
        refine WL.skip (d := 37) (k := ?_)
        refine WL.skip (d := 38) (k := ?_)
        refine WL.skip (d := 39) (k := ?_)
        refine WL.skip (d := 40) (k := ?_)
        refine WL.op (d := 41) (.bool false) (k := ?_)
        refine WL.nil ?_
        refine WX.seqN ?_
        refine WC.condF (k := ?_)
        refine WC.skip ?_
        refine WX.seqN ?_
        refine WC.seq ?_
        refine WC.region ?_
        refine WL.op (d := 60) (.int .i64 i) (k := ?_)
        refine WL.opE (d := 61) (.int .i64 (IntKind.i64.wrap (i + 1))) (v := .int .i64 (i + 1)) (congrArg (Value.int .i64) (IntWalk.i64_in _ (by omega))) (k := ?_)
        refine WL.op (d := 6) (.int .i64 (i + 1)) (k := ?_)
        refine WL.nil ?_
        refine WX.seqN ?_
        refine WC.region ?_
        refine WL.op (d := 62) (.int .i64 n) (k := ?_)
        refine WL.opE (d := 63) (.int .i64 (IntKind.i64.wrap (n + 1))) (v := .int .i64 (n + 1)) (congrArg (Value.int .i64) (IntWalk.i64_in _ (by omega))) (k := ?_)
        refine WL.op (d := 5) (.int .i64 (n + 1)) (k := ?_)
        refine WL.nil ?_
        refine WX.blockN ?_
        refine WX.seqN ?_
        refine WC.region ?_
        refine WL.op (d := 15) (.int .i64 i) (k := ?_)
        refine WL.opE (d := 16) (.int .i64 (IntKind.i64.wrap (i + 1))) (v := .int .i64 (i + 1)) (congrArg (Value.int .i64) (IntWalk.i64_in _ (by omega))) (k := ?_)
        refine WL.op (d := 7) (.int .i64 (i + 1)) (k := ?_)
        refine WL.nil ?_
        refine WX.round (i + 1, i + 1, n + 1, cs, Ao, co) (by show (l.length + 1 - (i + 1)).toNat < (l.length + 1 - i).toNat; omega) ⟨(by kernel_rfl), (by kernel_rfl), (by kernel_rfl), (by kernel_rfl), (by kernel_rfl), trivial⟩ ⟨K, hb2, ol3, (by omega), (by omega), (by omega), (by omega), (by omega), (by omega), ((lnJ_go hj a0 a1 (by omega) (by omega)).2.1 (lineC_0 (by omega))), (by omega), hF⟩
    have ph5 := of_decide_eq_false h5
    refine WL.rw (t := 21) (v := .bool false) (congrArg Value.bool h5) (k := ?_)
    refine WL.skip (d := 22) (k := ?_)
    refine WL.skip (d := 23) (k := ?_)
    refine WL.skip (d := 24) (k := ?_)
    refine WL.skip (d := 25) (k := ?_)
    refine WL.op (d := 26) (.bool false) (k := ?_)
    refine WL.nil ?_
    refine WX.seqN ?_
    refine WC.condF (k := ?_)
    refine WC.skip ?_
    refine WX.seqN ?_
    refine WC.seq ?_
    refine WC.region ?_
    refine WL.op (d := 27) (.string ⟨(l).toArray⟩) (k := ?_)
    refine WL.op (d := 28) (.int .i64 fm) (k := ?_)
    refine WL.op (d := 29) (.int .i64 i) (k := ?_)
    refine WL.cut (d := 30) (vx := .string ⟨(l).toArray⟩) (lo' := (some (.int .i64 fm))) (hi' := (some (.int .i64 i))) (mx' := none) (v := .string ⟨(List.drop fm.toNat (List.take i.toNat l)).toArray⟩) (run_cut (P := Tryz.prog) (w := w1) (lo := (some (.int .i64 fm))) (hi := (some (.int .i64 i))) (T := 9) (a := fm.toNat) (b := i.toNat) (l := l) (by kernel_rfl) (.inr ⟨_, _, rfl, by omega⟩) (.inr ⟨_, _, rfl, by omega⟩) (by first | omega | (simp; omega)) (by first | omega | (simp; omega))) (k := ?_)
    refine WL.callG (d := 31) (f := 24) (args := #[.string ⟨(List.drop fm.toNat (List.take i.toNat l)).toArray⟩]) (u25words_c (l := (List.drop fm.toNat (List.take i.toNat l))) (by first | omega | (simp; omega)) w1) (k := fun e_ w74 h_ => ?_)
    obtain ⟨A75, c76, rfl, ho77, k78, ol79⟩ := h_
    refine ⟨_, rfl, ?_⟩
    have ol80 := fun i h => Nat.le_trans K.size (ol79 i h)
    replace hb2 := hb2.adds k78
    replace hF := hF.adds k78
    replace K := K.trans (k78.any _)
    clear ol79
    have wl73 := wordsL_len (List.drop fm.toNat (List.take i.toNat l))
    refine WL.op (d := 8) (.slice A75 ((wordsL (List.drop fm.toNat (List.take i.toNat l))).length) c76) (k := ?_)
    refine WL.nil ?_
    refine WX.seqN ?_
    refine WC.seq ?_
    refine WC.seq ?_
    refine WC.region ?_
    refine WL.op (d := 32) (.slice A75 ((wordsL (List.drop fm.toNat (List.take i.toNat l))).length) c76) (k := ?_)
    refine WL.op (d := 33) (.int .i64 ((wordsL (List.drop fm.toNat (List.take i.toNat l))).length : Int)) (k := ?_)
    refine WL.op (d := 34) (.bool (decide (((wordsL (List.drop fm.toNat (List.take i.toNat l))).length : Int) > 0))) (k := ?_)
    refine WL.op (d := 35) (.bool (decide (((wordsL (List.drop fm.toNat (List.take i.toNat l))).length : Int) > 0))) (k := ?_)
    refine bsplit (decide (((wordsL (List.drop fm.toNat (List.take i.toNat l))).length : Int) > 0)) (fun h81 => ?_) (fun h81 => ?_)
    · have ph81 := of_decide_eq_true h81
      refine WL.rw (t := 35) (v := .bool true) (congrArg Value.bool h81) (k := ?_)
      refine WL.op (d := 36) (.slice A75 ((wordsL (List.drop fm.toNat (List.take i.toNat l))).length) c76) (k := ?_)
      obtain ⟨b82, o83, r84, hr85, hA86, he87⟩ := SlAt.at (ho77.sl ekStr) (i := 0) (by omega) (by omega)
      refine WL.rw (t := 36) (v := .slice (some ⟨b82, o83, none⟩) ((wordsL (List.drop fm.toNat (List.take i.toNat l))).length) c76) (congrArg (fun a => Value.slice a ((wordsL (List.drop fm.toNat (List.take i.toNat l))).length) c76) hA86) (k := ?_)
      have wn88 := wordsL_ne (List.mem_of_getElem? hr85)
      refine WL.idx (T := 43) (E := 9) (m := 1) (b := b82) (o := o83) (len := (wordsL (List.drop fm.toNat (List.take i.toNat l))).length) (cap := c76) (i := 0) (kk := .i64) (d := 37) (by omega) (by omega) (k := ?_)
      refine WL.rw (t := 36) (v := .slice A75 ((wordsL (List.drop fm.toNat (List.take i.toNat l))).length) c76) (congrArg (fun a => Value.slice a ((wordsL (List.drop fm.toNat (List.take i.toNat l))).length) c76) (Eq.symm hA86)) (k := ?_)
      refine WL.load (v := .string ⟨(r84).toArray⟩) (he87.ld0 (T := 9)) (k := ?_)
      refine WL.strAt (T := 9) (l := r84) (i := 0) (kk := .i64) (d := 39) (by omega) (by first | omega | (simp; omega)) (by kernel_rfl) (by kernel_rfl) (by kernel_rfl) (by kernel_rfl) (by kernel_rfl) ?_
      have ub89 := u8_lt (List.getD r84 (0 : Int).toNat 0)
      refine WL.op (d := 40) (.bool (((List.getD r84 (0 : Int).toNat 0).toNat : Int) != 59)) (k := ?_)
      refine WL.op (d := 41) (.bool (((List.getD r84 (0 : Int).toNat 0).toNat : Int) != 59)) (k := ?_)
      refine WL.nil ?_
      refine WX.seqN ?_
      refine WC.cond (b := ((List.getD r84 (0 : Int).toNat 0).toNat : Int) != 59) (ht := fun h90 => ?_) (hf := fun h90 => ?_)
      · have ph90 := bne_iff_ne.1 h90
        refine WC.seq ?_
        refine WC.region ?_
        refine WL.op (d := 42) (.slice A75 ((wordsL (List.drop fm.toNat (List.take i.toNat l))).length) c76) (k := ?_)
        refine WL.callG (d := 43) (f := 25) (args := #[.slice A75 ((wordsL (List.drop fm.toNat (List.take i.toNat l))).length) c76]) (u25command_c (cp := c76) (ho77.sl ekStr) (by omega) (fun y hy => Nat.le_trans (wordsL_le hy) (by omega)) (by omega) (OwAt.cap_leL ho77).1 (OwAt.cap_leL ho77).2) (k := fun e_ w91 h_ => ?_)
        obtain ⟨g92, is93, rfl, ho94, ol95, hq96, hl97, k98⟩ := h_
        refine ⟨_, rfl, ?_⟩
        have ol99 := fun i h => Nat.le_trans K.size (ol95 i h)
        replace hb2 := hb2.adds k98
        replace ho77 := ho77.adds k98
        replace he87 := he87.adds k98
        replace hF := hF.adds k98
        replace K := K.trans (k98.any _)
        clear ol95
        refine WL.new (d := 9) (T := 53) (Value.cells (gotV 0 GOp.zero 0 0 0 none 0 0 false)) (k := fun b100 w101 g102 hb103 k104 => ?_)
        have z105 := Nat.le_trans K.size g102
        have n106 := OwAt.off_new hb2 g102
        have n107 := OwAt.off_new ho77 g102
        have n108 := OwAt.off_new ho94 g102
        replace hb2 := hb2.adds k104
        replace ho77 := ho77.adds k104
        replace he87 := he87.adds k104
        replace ho94 := ho94.adds k104
        replace hF := hF.adds k104
        replace K := K.trans (k104.any _)
        refine WL.store (v := gotV g92.p.kind g92.p.op g92.p.id g92.p.work g92.p.n g92.A g92.p.fs.length g92.cap is93) (i := 0) (cs' := (Value.cells (gotV g92.p.kind g92.p.op g92.p.id g92.p.work g92.p.n g92.A g92.p.fs.length g92.cap is93))) hb103 (k := fun w109 hb110 k111 => ?_)
        replace hb2 := hb2.keeps k111 (fun i hi e => (n106) (e ▸ hi))
        replace ho77 := ho77.keeps k111 (fun i hi e => (n107) (e ▸ hi))
        replace ho94 := ho94.keeps k111 (fun i hi e => (n108) (e ▸ hi))
        replace hF := hF.keepsT k111 hb103 (by decide)
        replace K := K.trans' k111 (fun i hi e => absurd (e ▸ hi) (Nat.not_lt.2 z105))
        clear hb103
        refine WL.nil ?_
        refine WX.seqN ?_
        refine WC.seq ?_
        refine WC.region ?_
        refine WL.op (d := 44) (.pointer (some ⟨b100, 0, none⟩)) (k := ?_)
        refine WL.load (v := GCmd.val g92) (ldN (T := 39) (i := 0) (m := 15) (l := (Value.cells (GCmd.val g92)).toList) hb110) (k := ?_)
        refine WL.callG (d := 46) (f := 26) (args := #[GCmd.val g92]) (u23Check_c (c := g92) (ho94.sl ekFate) (by first | omega | (simp; done) | (simp; omega))) (k := fun e_ w112 h_ => ⟨.bool (cokB g92.p), h_.1, ?_⟩)
        have k113 := h_.2; clear h_
        replace hb2 := hb2.adds k113
        replace ho77 := ho77.adds k113
        replace ho94 := ho94.adds k113
        replace hb110 := k113.heap hb110 id
        replace hF := hF.adds k113
        replace K := K.trans (k113.any _)
        refine WL.op (d := 10) (.bool (cokB g92.p)) (k := ?_)
        refine WL.nil ?_
        refine WX.seqN ?_
        refine WC.seq ?_
        refine WC.seq ?_
        refine WC.region ?_
        refine WL.op (d := 47) (.pointer (some ⟨b100, 15, none⟩)) (k := ?_)
        refine WL.load (v := .bool is93) (ld1 (T := 4) (i := 15) hb110) (k := ?_)
        refine WL.op (d := 49) (.bool (!(is93))) (k := ?_)
        refine WL.op (d := 50) (.bool (!(is93))) (k := ?_)
        refine bsplit (!(is93)) (fun h114 => ?_) (fun h114 => ?_)
        · have h115 : (is93) = false := Bool.not_inj (y := false) h114
          refine WL.rw (t := 50) (v := .bool true) (congrArg Value.bool h114) (k := ?_)
          refine WL.skip (d := 51) (k := ?_)
          refine WL.skip (d := 52) (k := ?_)
          refine WL.op (d := 53) (.bool true) (k := ?_)
          refine WL.nil ?_
          refine WX.seqN ?_
          refine WC.condT (k := ?_)
          refine WC.seq ?_
          refine WC.region ?_
          refine WL.op (d := 54) (.int .i64 n) (k := ?_)
          refine WL.op (d := 2) (.slice none 0 0) (k := ?_)
          refine WL.op (d := 3) (.int .i64 n) (k := ?_)
          refine WL.nil ?_
          refine WX.seqN ?_
          refine WC.ret ?_
          refine WX.seqR ?_
          refine WX.seqR ?_
          refine WX.blockR ?_
          refine WX.seqR ?_
          refine WX.seqR ?_
          refine WX.blockR ?_
          refine WX.seqR ?_
          refine WX.ret (rs := [.tmp 2, .tmp 3]) [.slice none 0 0, .int .i64 n] (.tuple #[.slice none 0 0, .int .i64 n]) ⟨(by kernel_rfl), (by kernel_rfl), trivial⟩ (k := ?_)
          exact ⟨[], none, 0, n, rfl, OwAt.nil, FtsO.nil, (lnJ_go hj a0 a1 (by omega) (by omega)).1 ((lineQ hr85 (by show ¬ (List.getD r84 (Int.toNat 0) 0).toNat = 59; omega) hq96).2 (.inl h115)), K, by simp [blk]⟩
        have h116 : (is93) = true := Bool.not_inj (y := true) h114
        refine WL.rw (t := 50) (v := .bool false) (congrArg Value.bool h114) (k := ?_)
        refine WL.op (d := 51) (.bool (cokB g92.p)) (k := ?_)
        refine WL.op (d := 52) (.bool (!(cokB g92.p))) (k := ?_)
        refine WL.op (d := 53) (.bool (!(cokB g92.p))) (k := ?_)
        refine WL.nil ?_
        refine WX.seqN ?_
        refine WC.cond (b := !(cokB g92.p)) (ht := fun h117 => ?_) (hf := fun h117 => ?_)
        · have h118 : (cokB g92.p) = false := Bool.not_inj (y := false) h117
          have ph118 := cok_f h118
          refine WC.seq ?_
          refine WC.region ?_
          refine WL.op (d := 54) (.int .i64 n) (k := ?_)
          refine WL.op (d := 2) (.slice none 0 0) (k := ?_)
          refine WL.op (d := 3) (.int .i64 n) (k := ?_)
          refine WL.nil ?_
          refine WX.seqN ?_
          refine WC.ret ?_
          refine WX.seqR ?_
          refine WX.seqR ?_
          refine WX.blockR ?_
          refine WX.seqR ?_
          refine WX.seqR ?_
          refine WX.blockR ?_
          refine WX.seqR ?_
          refine WX.ret (rs := [.tmp 2, .tmp 3]) [.slice none 0 0, .int .i64 n] (.tuple #[.slice none 0 0, .int .i64 n]) ⟨(by kernel_rfl), (by kernel_rfl), trivial⟩ (k := ?_)
          exact ⟨[], none, 0, n, rfl, OwAt.nil, FtsO.nil, (lnJ_go hj a0 a1 (by omega) (by omega)).1 ((lineQ hr85 (by show ¬ (List.getD r84 (Int.toNat 0) 0).toNat = 59; omega) hq96).2 (.inr h118)), K, by simp [blk]⟩
        · have h119 : (cokB g92.p) = true := Bool.not_inj (y := true) h117
          have ph119 := cok_t h119
          refine WC.skip ?_
          refine WX.seqN ?_
          refine WC.region ?_
          refine WL.op (d := 55) (.slice Ao cs.length co) (k := ?_)
          refine WL.op (d := 56) (.pointer (some ⟨b100, 0, none⟩)) (k := ?_)
          refine WL.load (v := GCmd.val g92) (ldN (T := 39) (i := 0) (m := 15) (l := (Value.cells (GCmd.val g92)).toList) hb110) (k := ?_)
          refine WL.newF (d := 58) (T := 39) (Value.cells (GCmd.val g92)) (fun b => .slice (some ⟨b, 0, none⟩) 1 1) (k := fun b120 w121 g122 hb123 k124 => ?_)
          have z125 := Nat.le_trans K.size g122
          have n126 := OwAt.off_new hb2 g122
          have n127 := OwAt.off_new ho77 g122
          have n128 := OwAt.off_new ho94 g122
          have n129 : b100 ≠ b120 := Nat.ne_of_lt (Nat.lt_of_lt_of_le (lt_of_heap hb110) g122)
          replace hb2 := hb2.adds k124
          replace ho77 := ho77.adds k124
          replace ho94 := ho94.adds k124
          replace hb110 := k124.heap hb110 id
          replace hF := hF.adds k124
          replace K := K.trans (k124.any _)
          refine WL.append (d := 59) (T := 24) (cl := cmdC) (xs := cs) (ys := [g92]) (c := 1) ekCmd hb2 (SlAt.of_lit (ys := [g92]) ekCmd hb123 (by kernel_rfl)) (by first | omega | (simp; omega)) (k := fun A130 c131 w132 ho133 k134 n135 => ?_)
          have ol136 := olink_step ol3 K n135
          have n137 := off_step n135 n106 (lt_of_heap hb110)
          replace ho77 := ho77.keeps k134 (OwAt.offOw ho77 hb2 (by decide))
          replace ho94 := ho94.keeps k134 (OwAt.offOw ho94 hb2 (by decide))
          replace hb110 := k134.heap hb110 n106
          replace hF := hF.keepsOw k134 hb2 (by decide)
          replace K := K.trans' k134 (fun i hi e => absurd hi (Nat.not_lt.2 (ol3 i e)))
          clear hb2
          refine WL.op (d := 4) (.slice A130 ((cs ++ [g92]).length) c131) (k := ?_)
          refine WL.nil ?_
          refine WX.seqN ?_
          refine WC.seq ?_
          refine WC.region ?_
          refine WL.op (d := 60) (.int .i64 i) (k := ?_)
          refine WL.opE (d := 61) (.int .i64 (IntKind.i64.wrap (i + 1))) (v := .int .i64 (i + 1)) (congrArg (Value.int .i64) (IntWalk.i64_in _ (by omega))) (k := ?_)
          refine WL.op (d := 6) (.int .i64 (i + 1)) (k := ?_)
          refine WL.nil ?_
          refine WX.seqN ?_
          refine WC.region ?_
          refine WL.op (d := 62) (.int .i64 n) (k := ?_)
          refine WL.opE (d := 63) (.int .i64 (IntKind.i64.wrap (n + 1))) (v := .int .i64 (n + 1)) (congrArg (Value.int .i64) (IntWalk.i64_in _ (by omega))) (k := ?_)
          refine WL.op (d := 5) (.int .i64 (n + 1)) (k := ?_)
          refine WL.nil ?_
          refine WX.blockN ?_
          refine WX.seqN ?_
          refine WC.region ?_
          refine WL.op (d := 15) (.int .i64 i) (k := ?_)
          refine WL.opE (d := 16) (.int .i64 (IntKind.i64.wrap (i + 1))) (v := .int .i64 (i + 1)) (congrArg (Value.int .i64) (IntWalk.i64_in _ (by omega))) (k := ?_)
          refine WL.op (d := 7) (.int .i64 (i + 1)) (k := ?_)
          refine WL.nil ?_
          refine WX.round (i + 1, i + 1, n + 1, cs ++ [g92], A130, c131) (by show (l.length + 1 - (i + 1)).toNat < (l.length + 1 - i).toNat; omega) ⟨(by kernel_rfl), (by kernel_rfl), (by kernel_rfl), (by kernel_rfl), (by kernel_rfl), trivial⟩ ⟨K, ho133, ol136, (by omega), (by omega), (by omega), (by omega), (by omega), (by omega), ((lnJ_go hj a0 a1 (by omega) (by omega)).2.2 g92 ((lineQ hr85 (by show ¬ (List.getD r84 (Int.toNat 0) 0).toNat = 59; omega) hq96).1 h116 h119)), (by simp; omega), (FtsO.snoc (r := g92) hF ho94 (ok_fs (cok_t h119)))⟩
      · have ph90 := of_bne_false h90
        refine WC.skip ?_
        refine WX.seqN ?_
        refine WC.seq ?_
        refine WC.region ?_
        refine WL.op (d := 60) (.int .i64 i) (k := ?_)
        refine WL.opE (d := 61) (.int .i64 (IntKind.i64.wrap (i + 1))) (v := .int .i64 (i + 1)) (congrArg (Value.int .i64) (IntWalk.i64_in _ (by omega))) (k := ?_)
        refine WL.op (d := 6) (.int .i64 (i + 1)) (k := ?_)
        refine WL.nil ?_
        refine WX.seqN ?_
        refine WC.region ?_
        refine WL.op (d := 62) (.int .i64 n) (k := ?_)
        refine WL.opE (d := 63) (.int .i64 (IntKind.i64.wrap (n + 1))) (v := .int .i64 (n + 1)) (congrArg (Value.int .i64) (IntWalk.i64_in _ (by omega))) (k := ?_)
        refine WL.op (d := 5) (.int .i64 (n + 1)) (k := ?_)
        refine WL.nil ?_
        refine WX.blockN ?_
        refine WX.seqN ?_
        refine WC.region ?_
        refine WL.op (d := 15) (.int .i64 i) (k := ?_)
        refine WL.opE (d := 16) (.int .i64 (IntKind.i64.wrap (i + 1))) (v := .int .i64 (i + 1)) (congrArg (Value.int .i64) (IntWalk.i64_in _ (by omega))) (k := ?_)
        refine WL.op (d := 7) (.int .i64 (i + 1)) (k := ?_)
        refine WL.nil ?_
        refine WX.round (i + 1, i + 1, n + 1, cs, Ao, co) (by show (l.length + 1 - (i + 1)).toNat < (l.length + 1 - i).toNat; omega) ⟨(by kernel_rfl), (by kernel_rfl), (by kernel_rfl), (by kernel_rfl), (by kernel_rfl), trivial⟩ ⟨K, hb2, ol3, (by omega), (by omega), (by omega), (by omega), (by omega), (by omega), ((lnJ_go hj a0 a1 (by omega) (by omega)).2.1 (lineC_c hr85 (by show (List.getD r84 (Int.toNat 0) 0).toNat = 59; omega))), (by omega), hF⟩
    have ph81 := of_decide_eq_false h81
    refine WL.rw (t := 35) (v := .bool false) (congrArg Value.bool h81) (k := ?_)
    refine WL.skip (d := 36) (k := ?_)
    refine WL.skip (d := 37) (k := ?_)
    refine WL.skip (d := 38) (k := ?_)
    refine WL.skip (d := 39) (k := ?_)
    refine WL.skip (d := 40) (k := ?_)
    refine WL.op (d := 41) (.bool false) (k := ?_)
    refine WL.nil ?_
    refine WX.seqN ?_
    refine WC.condF (k := ?_)
    refine WC.skip ?_
    refine WX.seqN ?_
    refine WC.seq ?_
    refine WC.region ?_
    refine WL.op (d := 60) (.int .i64 i) (k := ?_)
    refine WL.opE (d := 61) (.int .i64 (IntKind.i64.wrap (i + 1))) (v := .int .i64 (i + 1)) (congrArg (Value.int .i64) (IntWalk.i64_in _ (by omega))) (k := ?_)
    refine WL.op (d := 6) (.int .i64 (i + 1)) (k := ?_)
    refine WL.nil ?_
    refine WX.seqN ?_
    refine WC.region ?_
    refine WL.op (d := 62) (.int .i64 n) (k := ?_)
    refine WL.opE (d := 63) (.int .i64 (IntKind.i64.wrap (n + 1))) (v := .int .i64 (n + 1)) (congrArg (Value.int .i64) (IntWalk.i64_in _ (by omega))) (k := ?_)
    refine WL.op (d := 5) (.int .i64 (n + 1)) (k := ?_)
    refine WL.nil ?_
    refine WX.blockN ?_
    refine WX.seqN ?_
    refine WC.region ?_
    refine WL.op (d := 15) (.int .i64 i) (k := ?_)
    refine WL.opE (d := 16) (.int .i64 (IntKind.i64.wrap (i + 1))) (v := .int .i64 (i + 1)) (congrArg (Value.int .i64) (IntWalk.i64_in _ (by omega))) (k := ?_)
    refine WL.op (d := 7) (.int .i64 (i + 1)) (k := ?_)
    refine WL.nil ?_
    refine WX.round (i + 1, i + 1, n + 1, cs, Ao, co) (by show (l.length + 1 - (i + 1)).toNat < (l.length + 1 - i).toNat; omega) ⟨(by kernel_rfl), (by kernel_rfl), (by kernel_rfl), (by kernel_rfl), (by kernel_rfl), trivial⟩ ⟨K, hb2, ol3, (by omega), (by omega), (by omega), (by omega), (by omega), (by omega), ((lnJ_go hj a0 a1 (by omega) (by omega)).2.1 (lineC_0 (by omega))), (by omega), hF⟩
  · have ph4 := of_decide_eq_false h4
    refine WC.exit ?_
    refine WX.seqE ?_
    refine WX.seqE ?_
    refine WX.blockE ?_
    refine WX.seqN ?_
    refine WC.seq ?_
    refine WC.region ?_
    refine WL.op (d := 64) (.slice Ao cs.length co) (k := ?_)
    refine WL.op (d := 2) (.slice Ao cs.length co) (k := ?_)
    refine WL.op (d := 3) (.int .i64 0) (k := ?_)
    refine WL.nil ?_
    refine WX.seqN ?_
    refine WC.ret ?_
    refine WX.ret (rs := [.tmp 2, .tmp 3]) [.slice Ao cs.length co, .int .i64 0] (.tuple #[.slice Ao cs.length co, .int .i64 0]) ⟨(by kernel_rfl), (by kernel_rfl), trivial⟩ (k := ?_)
    exact ⟨cs, _, _, 0, rfl, hb2, hF, lnJ_done hj (by omega), K, ol3⟩
set_option maxRecDepth 100000 in
theorem l25short_c (l : List UInt8) (n : Nat) (hn : n ≤ 1000000) (hl : l.length ≤ 9223372036854775807) (w : World) : Calls Tryz.prog 6 #[.string ⟨l.toArray⟩, .int .i64 (n : Int)] w fun e w' => ∃ l' : List UInt8, l'.length ≤ n ∧ e = .returned (.string ⟨l'.toArray⟩) ∧ Adds w w' := by
  have K : Keeps (fun _ => False) w w := Keeps.refl _ w
  refine Calls.start Tryz.func6 rfl (by kernel_rfl) ?_
  refine WC.seq ?_
  refine WC.region ?_
  refine WL.op (d := 4) (.string ⟨#[]⟩) (k := ?_)
  refine WL.nil ?_
  refine WX.seqN ?_
  refine WC.seq ?_
  refine WC.seq ?_
  refine WC.region ?_
  refine WL.op (d := 5) (.string ⟨(l).toArray⟩) (k := ?_)
  refine WL.op (d := 6) (.int .i64 (l.length : Int)) (k := ?_)
  refine WL.op (d := 7) (.int .i64 (n : Int)) (k := ?_)
  refine WL.op (d := 8) (.bool (decide ((l.length : Int) > (n : Int)))) (k := ?_)
  refine WL.nil ?_
  refine WX.seqN ?_
  refine WC.cond (b := decide ((l.length : Int) > (n : Int))) (ht := fun h1 => ?_) (hf := fun h1 => ?_)
  · have ph1 := of_decide_eq_true h1
    refine WC.seq ?_
    refine WC.region ?_
    refine WL.op (d := 9) (.string ⟨(l).toArray⟩) (k := ?_)
    refine WL.op (d := 10) (.int .i64 (n : Int)) (k := ?_)
    refine WL.cut (d := 11) (vx := .string ⟨(l).toArray⟩) (lo' := none) (hi' := (some (.int .i64 (n : Int)))) (mx' := none) (v := .string ⟨(List.take n l).toArray⟩) (run_cut (P := Tryz.prog) (w := w) (lo := none) (hi := (some (.int .i64 (n : Int)))) (T := 9) (a := 0) (b := n) (l := l) (by kernel_rfl) (.inl ⟨rfl, rfl⟩) (.inr ⟨_, _, rfl, by omega⟩) (by first | omega | (simp; omega)) (by first | omega | (simp; omega))) (k := ?_)
    refine WL.op (d := 4) (.string ⟨(List.take n l).toArray⟩) (k := ?_)
    refine WL.nil ?_
    refine WX.seqN ?_
    refine WC.ret ?_
    refine WX.seqR ?_
    refine WX.ret (rs := [.tmp 4]) [.string ⟨(List.take n l).toArray⟩] (.string ⟨(List.take n l).toArray⟩) ⟨(by kernel_rfl), trivial⟩ (k := ?_)
    exact ⟨_, (by simp; omega), rfl, K⟩
  · have ph1 := of_decide_eq_false h1
    refine WC.skip ?_
    refine WX.seqN ?_
    refine WC.seq ?_
    refine WC.region ?_
    refine WL.op (d := 12) (.string ⟨(l).toArray⟩) (k := ?_)
    refine WL.op (d := 4) (.string ⟨(l).toArray⟩) (k := ?_)
    refine WL.nil ?_
    refine WX.seqN ?_
    refine WC.ret ?_
    refine WX.ret (rs := [.tmp 4]) [.string ⟨(l).toArray⟩] (.string ⟨(l).toArray⟩) ⟨(by kernel_rfl), trivial⟩ (k := ?_)
    exact ⟨_, (by omega), rfl, K⟩
theorem parGo_le : ∀ (L : Words) (n : Int) (acc : List PCmd), (parGo n acc L).1.length ≤ acc.length + L.length
  | [], n, acc => by simp [parGo]
  | x :: L, n, acc => by
    rw [parGo]
    cases lineC x with
    | none => simp
    | some o =>
      cases o with
      | none => have := parGo_le L (n + 1) acc; simp only [List.length_cons]; omega
      | some p => have := parGo_le L (n + 1) (acc ++ [p]); simp only [List.length_cons, List.length_append, List.length_nil] at this ⊢; omega
theorem parGo_len (l : List UInt8) : (parV l).1.length ≤ l.length + 1 := by
  have h := parGo_le (splitL 10 l) 0 []
  have h2 := splitL_len 10 l
  have h3 := List.count_le_length (a := (10 : UInt8)) (l := l)
  unfold parV
  simp only [List.length_nil] at h
  omega
set_option maxRecDepth 100000 in
set_option maxHeartbeats 4000000 in
theorem linesRead_any {l t : List UInt8} (hl : l.length ≤ 9223372036854775807) (ht : t.length ≤ 9223372036854775807) {w : World} (hG : GB w) : Calls Tryz.prog 3 #[.string ⟨l.toArray⟩, .string ⟨t.toArray⟩] w fun e w' => e = .returned (.bool true) ∧ Adds w w' := by
  have K : Keeps (fun _ => False) w w := Keeps.refl _ w
  refine Calls.start Tryz.func3 rfl (by kernel_rfl) ?_
  refine WC.seq ?_
  refine WC.region ?_
  refine WL.op (d := 4) (.bool false) (k := ?_)
  refine WL.nil ?_
  refine WX.seqN ?_
  refine WC.seq ?_
  refine WC.region ?_
  refine WL.callG (d := 15) (f := 5) (args := #[]) (l25awake_c (hG.keeps K (fun _ _ x => x))) (k := fun e_ w1 h_ => ⟨.bool true, h_.1, ?_⟩)
  have k2 := h_.2; clear h_
  replace K := K.trans (k2.any _)
  refine WL.op (d := 5) (.bool true) (k := ?_)
  refine WL.nil ?_
  refine WX.seqN ?_
  refine WC.seq ?_
  refine WC.region ?_
  refine WL.op (d := 16) (.string ⟨(l).toArray⟩) (k := ?_)
  refine WL.callG (d := 17) (f := 6) (args := #[.string ⟨(l).toArray⟩, .int .i64 120]) (l25short_c l 120 (by omega) (by show List.length l ≤ _; first | omega | (simp; done) | (simp; omega)) w1) (k := fun e_ w3 h_ => ?_)
  obtain ⟨l4, hl5, rfl, k6⟩ := h_
  refine ⟨_, rfl, ?_⟩
  replace K := K.trans (k6.any _)
  refine WL.op (d := 0) (.string ⟨(l4).toArray⟩) (k := ?_)
  refine WL.nil ?_
  refine WX.seqN ?_
  refine WC.seq ?_
  refine WC.region ?_
  refine WL.op (d := 18) (.string ⟨(t).toArray⟩) (k := ?_)
  refine WL.callG (d := 19) (f := 6) (args := #[.string ⟨(t).toArray⟩, .int .i64 50]) (l25short_c t 50 (by omega) (by show List.length t ≤ _; first | omega | (simp; done) | (simp; omega)) w3) (k := fun e_ w7 h_ => ?_)
  obtain ⟨l8, hl9, rfl, k10⟩ := h_
  refine ⟨_, rfl, ?_⟩
  replace K := K.trans (k10.any _)
  refine WL.op (d := 1) (.string ⟨(l8).toArray⟩) (k := ?_)
  refine WL.nil ?_
  refine WX.seqN ?_
  refine WC.seq ?_
  refine WC.region ?_
  refine WL.op (d := 21) (.string ⟨(l4).toArray⟩) (k := ?_)
  refine WL.callG (d := 22) (f := 7) (args := #[.string ⟨(l4).toArray⟩]) (lnParse_c (l := l4) (by first | omega | (simp; done) | (simp; omega)) (hG.keeps K (fun _ _ x => x))) (k := fun e_ w11 h_ => ?_)
  obtain ⟨xs12, A13, c14, n15, rfl, ho16, hF17, hP18, k19, ol20⟩ := h_
  refine ⟨_, rfl, ?_⟩
  have ol21 := fun i h => Nat.le_trans K.size (ol20 i h)
  replace K := K.trans (k19.any _)
  clear ol20
  refine WL.op (d := 20) (.tuple #[.slice A13 xs12.length c14, .int .i64 n15]) (k := ?_)
  refine WL.op (d := 23) (.slice A13 xs12.length c14) (k := ?_)
  refine WL.op (d := 24) (.int .i64 n15) (k := ?_)
  refine WL.op (d := 6) (.slice A13 xs12.length c14) (k := ?_)
  refine WL.op (d := 7) (.int .i64 n15) (k := ?_)
  refine WL.nil ?_
  refine WX.seqN ?_
  refine WC.seq ?_
  refine WC.region ?_
  refine WL.op (d := 26) (.string ⟨(l4).toArray⟩) (k := ?_)
  refine WL.callG (d := 27) (f := 8) (args := #[.string ⟨(l4).toArray⟩]) (u25Parse_c (l := l4) (by first | omega | (simp; done) | (simp; omega)) w11) (k := fun e_ w22 h_ => ?_)
  obtain ⟨xs23, A24, c25, n26, rfl, ho27, hF28, hP29, k30, ol31⟩ := h_
  refine ⟨_, rfl, ?_⟩
  have ol32 := fun i h => Nat.le_trans K.size (ol31 i h)
  replace ho16 := ho16.adds k30
  replace hF17 := hF17.adds k30
  replace K := K.trans (k30.any _)
  clear ol31
  refine WL.op (d := 25) (.tuple #[.slice A24 xs23.length c25, .int .i64 n26]) (k := ?_)
  refine WL.op (d := 28) (.slice A24 xs23.length c25) (k := ?_)
  refine WL.op (d := 29) (.int .i64 n26) (k := ?_)
  refine WL.op (d := 8) (.slice A24 xs23.length c25) (k := ?_)
  refine WL.op (d := 9) (.int .i64 n26) (k := ?_)
  refine WL.nil ?_
  refine WX.seqN ?_
  refine WC.seq ?_
  obtain ⟨ex_, en_⟩ := Prod.mk.inj (hP18.symm.trans hP29)
  have ln1_ : xs12.length = xs23.length := by have q_ := congrArg List.length ex_; simpa using q_
  have lx_ := congrArg (fun p : List PCmd × Int => p.1.length) hP18
  have lx2_ := parGo_len l4
  simp only [List.length_map] at lx_
  refine WC.region ?_
  refine WL.op (d := 30) (.slice A13 xs12.length c14) (k := ?_)
  refine WL.op (d := 31) (.slice A24 xs23.length c25) (k := ?_)
  refine WL.callG (d := 32) (f := 9) (args := #[.slice A13 xs12.length c14, .slice A24 xs23.length c25]) (u23SameAll_c (cp := c14) (cq := c25) (ho16.sl ekCmd) (Fts.le hF17.fts (by omega)) (by omega) (ho27.sl ekCmd) (Fts.le hF28.fts (by omega)) (by omega)) (k := fun e_ w33 h_ => ⟨.bool (decide (List.map GCmd.p xs12 = List.map GCmd.p xs23)), h_.1, ?_⟩)
  have k34 := h_.2; clear h_
  replace ho16 := ho16.adds k34
  replace ho27 := ho27.adds k34
  replace hF17 := hF17.adds k34
  replace hF28 := hF28.adds k34
  replace K := K.trans (k34.any _)
  refine WL.op (d := 10) (.bool (decide (List.map GCmd.p xs12 = List.map GCmd.p xs23))) (k := ?_)
  refine WL.nil ?_
  refine WX.seqN ?_
  refine WC.seq ?_
  refine WC.region ?_
  refine WL.op (d := 34) (.string ⟨(l8).toArray⟩) (k := ?_)
  refine WL.callG (d := 35) (f := 10) (args := #[.string ⟨(l8).toArray⟩]) (lnParseTask_c (l := l8) (by show List.length l8 ≤ _; first | omega | (simp; done) | (simp; omega)) (hG.keeps K (fun _ _ x => x))) (k := fun e_ w35 h_ => ⟨.tuple #[GTask.val (taskV l8), .bool (decide (taskP l8))], h_.1, ?_⟩)
  have k36 := h_.2; clear h_
  replace ho16 := ho16.adds k36
  replace ho27 := ho27.adds k36
  replace hF17 := hF17.adds k36
  replace hF28 := hF28.adds k36
  replace K := K.trans (k36.any _)
  refine WL.op (d := 33) (.tuple #[GTask.val (taskV l8), .bool (decide (taskP l8))]) (k := ?_)
  refine WL.op (d := 36) (GTask.val (taskV l8)) (k := ?_)
  refine WL.op (d := 37) (.bool (decide (taskP l8))) (k := ?_)
  refine WL.new (d := 11) (T := 29) #[.int .i64 0, .int .i64 0, .int .i64 0, .int .i64 0, .int .i64 0] (k := fun b37 w38 g39 hb40 k41 => ?_)
  have z42 := Nat.le_trans K.size g39
  have n43 := OwAt.off_new ho16 g39
  have n44 := OwAt.off_new ho27 g39
  replace ho16 := ho16.adds k41
  replace ho27 := ho27.adds k41
  replace hF17 := hF17.adds k41
  replace hF28 := hF28.adds k41
  replace K := K.trans (k41.any _)
  refine WL.store (v := GTask.val (taskV l8)) (i := 0) (cs' := (Value.cells (GTask.val (taskV l8)))) hb40 (k := fun w45 hb46 k47 => ?_)
  replace ho16 := ho16.keeps k47 (fun i hi e => (n43) (e ▸ hi))
  replace ho27 := ho27.keeps k47 (fun i hi e => (n44) (e ▸ hi))
  replace hF17 := hF17.keepsT k47 hb40 (by decide)
  replace hF28 := hF28.keepsT k47 hb40 (by decide)
  replace K := K.trans' k47 (fun i hi e => absurd (e ▸ hi) (Nat.not_lt.2 z42))
  clear hb40
  refine WL.op (d := 12) (.bool (decide (taskP l8))) (k := ?_)
  refine WL.nil ?_
  refine WX.seqN ?_
  refine WC.seq ?_
  refine WC.region ?_
  refine WL.op (d := 39) (.string ⟨(l8).toArray⟩) (k := ?_)
  refine WL.callG (d := 40) (f := 11) (args := #[.string ⟨(l8).toArray⟩]) (u25ParseTask_c (l := l8) (by first | omega | (simp; omega)) w45) (k := fun e_ w48 h_ => ⟨.tuple #[GTask.val (taskV l8), .bool (decide (taskP l8))], h_.1, ?_⟩)
  have k49 := h_.2; clear h_
  replace ho16 := ho16.adds k49
  replace ho27 := ho27.adds k49
  replace hb46 := k49.heap hb46 id
  replace hF17 := hF17.adds k49
  replace hF28 := hF28.adds k49
  replace K := K.trans (k49.any _)
  refine WL.op (d := 38) (.tuple #[GTask.val (taskV l8), .bool (decide (taskP l8))]) (k := ?_)
  refine WL.op (d := 41) (GTask.val (taskV l8)) (k := ?_)
  refine WL.op (d := 42) (.bool (decide (taskP l8))) (k := ?_)
  refine WL.new (d := 13) (T := 29) #[.int .i64 0, .int .i64 0, .int .i64 0, .int .i64 0, .int .i64 0] (k := fun b50 w51 g52 hb53 k54 => ?_)
  have z55 := Nat.le_trans K.size g52
  have n56 := OwAt.off_new ho16 g52
  have n57 := OwAt.off_new ho27 g52
  have n58 : b37 ≠ b50 := Nat.ne_of_lt (Nat.lt_of_lt_of_le (lt_of_heap hb46) g52)
  replace ho16 := ho16.adds k54
  replace ho27 := ho27.adds k54
  replace hb46 := k54.heap hb46 id
  replace hF17 := hF17.adds k54
  replace hF28 := hF28.adds k54
  replace K := K.trans (k54.any _)
  refine WL.store (v := GTask.val (taskV l8)) (i := 0) (cs' := (Value.cells (GTask.val (taskV l8)))) hb53 (k := fun w59 hb60 k61 => ?_)
  replace ho16 := ho16.keeps k61 (fun i hi e => (n56) (e ▸ hi))
  replace ho27 := ho27.keeps k61 (fun i hi e => (n57) (e ▸ hi))
  replace hb46 := k61.heap hb46 n58
  replace hF17 := hF17.keepsT k61 hb53 (by decide)
  replace hF28 := hF28.keepsT k61 hb53 (by decide)
  replace K := K.trans' k61 (fun i hi e => absurd (e ▸ hi) (Nat.not_lt.2 z55))
  clear hb53
  refine WL.op (d := 14) (.bool (decide (taskP l8))) (k := ?_)
  refine WL.nil ?_
  refine WX.seqN ?_
  refine WC.seq ?_
  refine WC.region ?_
  refine WL.op (d := 43) (.bool true) (k := ?_)
  refine WL.op (d := 44) (.bool true) (k := ?_)
  refine WL.op (d := 45) (.bool (decide (List.map GCmd.p xs12 = List.map GCmd.p xs23))) (k := ?_)
  refine WL.op (d := 46) (.bool (decide (List.map GCmd.p xs12 = List.map GCmd.p xs23))) (k := ?_)
  refine WL.op (d := 47) (.bool (decide (List.map GCmd.p xs12 = List.map GCmd.p xs23))) (k := ?_)
  refine bsplit (decide (List.map GCmd.p xs12 = List.map GCmd.p xs23)) (fun h62 => ?_) (fun h62 => ?_)
  · have ph62 := of_decide_eq_true h62
    refine WL.rw (t := 47) (v := .bool true) (congrArg Value.bool h62) (k := ?_)
    refine WL.op (d := 48) (.int .i64 n15) (k := ?_)
    refine WL.op (d := 49) (.int .i64 n26) (k := ?_)
    refine WL.op (d := 50) (.bool (n15 == n26)) (k := ?_)
    refine WL.op (d := 51) (.bool (n15 == n26)) (k := ?_)
    refine WL.op (d := 52) (.bool (n15 == n26)) (k := ?_)
    refine bsplit (n15 == n26) (fun h63 => ?_) (fun h63 => ?_)
    · have ph63 := eq_of_beq h63
      refine WL.rw (t := 52) (v := .bool true) (congrArg Value.bool h63) (k := ?_)
      refine WL.load (v := GTask.val (taskV l8)) (ldN (T := 29) (i := 0) (m := 5) (l := (Value.cells (GTask.val (taskV l8))).toList) hb46) (k := ?_)
      refine WL.load (v := GTask.val (taskV l8)) (ldN (T := 29) (i := 0) (m := 5) (l := (Value.cells (GTask.val (taskV l8))).toList) hb60) (k := ?_)
      refine WL.bin (d := 55) (v := .bool true) (eqTaskS (taskV l8) _) (k := ?_)
      refine WL.op (d := 56) (.bool true) (k := ?_)
      refine WL.op (d := 57) (.bool true) (k := ?_)
      refine WL.op (d := 58) (.bool (decide (taskP l8))) (k := ?_)
      refine WL.op (d := 59) (.bool (decide (taskP l8))) (k := ?_)
      refine WL.opE (d := 60) (.bool ((decide (taskP l8)) == (decide (taskP l8)))) (v := .bool true) (congrArg Value.bool (beq_self_eq_true (α := Bool) (decide (taskP l8)))) (k := ?_)
      refine WL.op (d := 61) (.bool true) (k := ?_)
      refine WL.op (d := 4) (.bool true) (k := ?_)
      refine WL.nil ?_
      refine WX.seqN ?_
      refine WC.ret ?_
      refine WX.ret (rs := [.tmp 4]) [.bool true] (.bool true) ⟨(by kernel_rfl), trivial⟩ (k := ?_)
      exact ⟨rfl, K⟩
    have ph63 := ne_of_beq_false h63
    refine WL.rw (t := 52) (v := .bool false) (congrArg Value.bool h63) (k := ?_)
    refine WL.skip (d := 53) (k := ?_)
    refine WL.skip (d := 54) (k := ?_)
    refine WL.skip (d := 55) (k := ?_)
    refine WL.op (d := 56) (.bool false) (k := ?_)
    refine WL.op (d := 57) (.bool false) (k := ?_)
    refine WL.skip (d := 58) (k := ?_)
    refine WL.skip (d := 59) (k := ?_)
    refine WL.skip (d := 60) (k := ?_)
    refine WL.op (d := 61) (.bool false) (k := ?_)
    refine WL.op (d := 4) (.bool false) (k := ?_)
    refine WL.nil ?_
    refine WX.seqN ?_
    refine WC.ret ?_
    refine WX.ret (rs := [.tmp 4]) [.bool false] (.bool false) ⟨(by kernel_rfl), trivial⟩ (k := ?_)
    exact absurd (by first | exact ex_ | exact en_ | rfl) ph63
  have ph62 := of_decide_eq_false h62
  refine WL.rw (t := 47) (v := .bool false) (congrArg Value.bool h62) (k := ?_)
  refine WL.skip (d := 48) (k := ?_)
  refine WL.skip (d := 49) (k := ?_)
  refine WL.skip (d := 50) (k := ?_)
  refine WL.op (d := 51) (.bool false) (k := ?_)
  refine WL.op (d := 52) (.bool false) (k := ?_)
  refine WL.skip (d := 53) (k := ?_)
  refine WL.skip (d := 54) (k := ?_)
  refine WL.skip (d := 55) (k := ?_)
  refine WL.op (d := 56) (.bool false) (k := ?_)
  refine WL.op (d := 57) (.bool false) (k := ?_)
  refine WL.skip (d := 58) (k := ?_)
  refine WL.skip (d := 59) (k := ?_)
  refine WL.skip (d := 60) (k := ?_)
  refine WL.op (d := 61) (.bool false) (k := ?_)
  refine WL.op (d := 4) (.bool false) (k := ?_)
  refine WL.nil ?_
  refine WX.seqN ?_
  refine WC.ret ?_
  refine WX.ret (rs := [.tmp 4]) [.bool false] (.bool false) ⟨(by kernel_rfl), trivial⟩ (k := ?_)
  exact absurd (by first | exact ex_ | exact en_ | rfl) ph62
end Go.Proofs.YtoeinhlmkpgjhaaGreatDoor
namespace Go.Proofs.YtoeinhlmkpgjhaaGreatDoor
open Go.RowKit
set_option linter.unusedVariables false
theorem gb_ofr {W : World} (hsh : W.ShapedOpen Tryz.prog) (hL : laidMetH Tryz.prog Rows.linesReadRow.laid W) : GB W := by
  refine ⟨?_, ?_, ?_⟩
  · exact cell_of_shapedOpen_int hsh (of_decide_eq_true (by kernel_rfl)) (zero := #[.int .i64 0]) (t := 3) (by kernel_rfl) rfl (by kernel_rfl) (by kernel_rfl) Tryz.underlying3
  · have h := hL.filter (fun x => x.1 == "internal/strconv.uint64pow10")
    rw [MakeChecks.laidMetH_plain _ _ _ (by kernel_rfl)] at h
    exact Lib.tabIs_of_head (rest := []) (n := 20) (e := 132) (g := 1) (t := (((Tryz.prog.globals[1]?).map (·.type)).getD 0)) (by kernel_rfl) (by kernel_rfl) (by kernel_rfl) (by kernel_rfl) (by kernel_rfl) (by kernel_rfl) h
  · have e : (((begin Tryz.prog (fun _ _ => 0) default).world.heap[5]?).bind Obj.row?).isSome = true := by kernel_rfl
    obtain ⟨⟨z, t⟩, hz⟩ := Option.isSome_iff_exists.1 e
    obtain ⟨cs, hh, _⟩ := hsh.1 5 z t (of_decide_eq_true (by kernel_rfl)) hz
    exact lt_of_heap hh
end Go.Proofs.YtoeinhlmkpgjhaaGreatDoor
namespace Go.Proofs.YtoeinhlmkpgjhaaGreatDoor
open Go.RowKit
set_option linter.unusedVariables false
theorem isStr {s : ByteArray} (h : IsStr [.string s]) : ∃ l : List UInt8, s = ⟨l.toArray⟩ ∧ l.length ≤ 9223372036854775807 := by
  obtain ⟨n, h1, h2⟩ := h
  simp only [List.cons.injEq, Value.string.injEq, and_true] at h1
  subst h1
  obtain ⟨⟨l⟩⟩ := s
  exact ⟨l, rfl, by simpa [maxLen, ByteArray.size] using h2⟩
end Go.Proofs.YtoeinhlmkpgjhaaGreatDoor
