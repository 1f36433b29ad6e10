/- Ln8, Ln9, Ln10, Ln11: one behind the other. -/
import Derived.Test.YtoeinhlmkpgjhaaGreatDoorPr2
namespace Go.Proofs.YtoeinhlmkpgjhaaGreatDoor
open Go.RowKit
set_option linter.unusedVariables false
set_option linter.unusedSimpArgs false
set_option maxRecDepth 100000 in
set_option maxHeartbeats 4000000 in
theorem lnLine_c {c : GCmd} {w : World} (hG : GB w) (hc : SlAt fateC 2 72 c.A c.p.fs w) (lc : c.p.fs.length ≤ 1000000000) : Calls Tryz.prog 13 #[c.val] w fun e w' => e = .returned (.string ⟨(lineW c.p).toArray⟩) ∧ Adds w w' := by
  have K : Keeps (fun _ => False) w w := Keeps.refl _ w
  refine Calls.start Tryz.func13 rfl (by kernel_rfl) ?_
  refine WC.seq ?_
  refine WC.region ?_
  refine WL.new (d := 1) (T := 39) (Value.cells (GCmd.val c)) (k := fun b1 w2 g3 hb4 k5 => ?_)
  have z6 := Nat.le_trans K.size g3
  replace K := K.trans (k5.any _)
  refine WL.op (d := 2) (.string ⟨#[]⟩) (k := ?_)
  refine WL.nil ?_
  refine WX.seqN ?_
  refine WC.seq ?_
  refine WC.seq ?_
  refine WC.region ?_
  refine WL.load (v := GCmd.val c) (ldN (T := 39) (i := 0) (m := 15) (l := (Value.cells (GCmd.val c)).toList) hb4) (k := ?_)
  refine WL.callG (d := 7) (f := 33) (args := #[GCmd.val c]) (sCheck_c (c := c) (hc.adds K) (by first | omega | (simp; done) | (simp; omega))) (k := fun e_ w7 h_ => ⟨.bool (cokB c.p), h_.1, ?_⟩)
  have k8 := h_.2; clear h_
  replace hb4 := k8.heap hb4 id
  replace K := K.trans (k8.any _)
  refine WL.op (d := 8) (.bool (!(cokB c.p))) (k := ?_)
  refine WL.nil ?_
  refine WX.seqN ?_
  refine WC.cond (b := !(cokB c.p)) (ht := fun h9 => ?_) (hf := fun h9 => ?_)
  · have h10 : (cokB c.p) = false := Bool.not_inj (y := false) h9
    have ph10 := cok_f h10
    refine WC.seq ?_
    refine WC.region ?_
    refine WL.op (d := 2) (.string ⟨#[]⟩) (k := ?_)
    refine WL.nil ?_
    refine WX.seqN ?_
    refine WC.ret ?_
    refine WX.seqR ?_
    refine WX.ret (rs := [.tmp 2]) [.string ⟨#[]⟩] (.string ⟨#[]⟩) ⟨(by kernel_rfl), trivial⟩ (k := ?_)
    exact ⟨by rw [lineW_no (cok_f h10)], K⟩
  · have h11 : (cokB c.p) = true := Bool.not_inj (y := true) h9
    have ph11 := cok_t h11
    refine WC.skip ?_
    refine WX.seqN ?_
    refine WC.seq ?_
    have okc_ := cok_t h11
    obtain ⟨_, okr_, okf_, oko_⟩ := okc_
    unfold PCmd.rngs at okr_
    refine WC.region ?_
    refine WL.op (d := 3) (.slice none 0 0) (k := ?_)
    refine WL.nil ?_
    refine WX.seqN ?_
    refine WC.seq ?_
    refine WC.seq ?_
    refine WC.region ?_
    refine WL.op (d := 9) (.pointer (some ⟨b1, 0, none⟩)) (k := ?_)
    refine WL.load (v := .int .i64 c.p.kind) (ld1 (T := 3) (i := 0) hb4) (k := ?_)
    refine WL.nil ?_
    refine WX.seqN ?_
    refine WC.block ?_
    refine WC.seq ?_
    refine WC.region ?_
    refine WL.op (d := 12) (.bool (c.p.kind == 1)) (k := ?_)
    refine WL.op (d := 11) (.bool (c.p.kind == 1)) (k := ?_)
    refine WL.nil ?_
    refine WX.seqN ?_
    refine WC.cond (b := c.p.kind == 1) (ht := fun h12 => ?_) (hf := fun h12 => ?_)
    · have ph12 := eq_of_beq h12
      refine WC.region ?_
      refine WL.op (d := 13) (.pointer (some ⟨b1, 1, none⟩)) (k := ?_)
      refine WL.load (v := GOp.val c.p.op) (ldN (T := 36) (i := 1) (m := 10) (l := (Value.cells (GOp.val c.p.op)).toList) hb4) (k := ?_)
      refine WL.callG (d := 15) (f := 34) (args := #[GOp.val c.p.op]) (lnOp_c (o := c.p.op) (oko_ ph12) (hG.keeps K (fun _ _ x => x))) (k := fun e_ w13 h_ => ?_)
      obtain ⟨A14, c15, rfl, ho16, k17, ol18⟩ := h_
      refine ⟨_, rfl, ?_⟩
      have ol19 := fun i h => Nat.le_trans K.size (ol18 i h)
      replace hb4 := k17.heap hb4 id
      replace K := K.trans (k17.any _)
      clear ol18
      refine WL.op (d := 3) (.slice A14 ((opW c.p.op).length) c15) (k := ?_)
      refine WL.nil ?_
      refine WX.blockN ?_
      refine WX.seqN ?_
      refine WC.seq ?_
      refine WC.region ?_
      refine WL.op (d := 69) (.slice A14 ((opW c.p.op).length) c15) (k := ?_)
      have ok_ := cok_t h11
      have eo_ : opW c.p.op = cmdW c.p := by rw [cmdW, if_pos ph12]
      have jl_ := cmdW_jl ok_
      have cl_ := (cmdW_len ok_).2
      rw [← eo_] at jl_ cl_
      refine WL.callG (d := 70) (f := 38) (args := #[.slice A14 ((opW c.p.op).length) c15, .string ⟨#[32]⟩]) (lJoin_c (xs := opW c.p.op) (c := 32) (cap := c15) (ho16.sl ekStr) (SlAt.cell ho16) (by omega) (by omega)) (k := fun e_ w21 h_ => ⟨.string ⟨(joinL 32 (opW c.p.op)).toArray⟩, h_.1, ?_⟩)
      have k22 := h_.2; clear h_
      replace hb4 := k22.heap hb4 id
      replace ho16 := ho16.adds k22
      replace K := K.trans (k22.any _)
      have jl20 := jl_
      refine WL.op (d := 2) (.string ⟨(joinL 32 (opW c.p.op)).toArray⟩) (k := ?_)
      refine WL.nil ?_
      refine WX.seqN ?_
      refine WC.ret ?_
      refine WX.ret (rs := [.tmp 2]) [.string ⟨(joinL 32 (opW c.p.op)).toArray⟩] (.string ⟨(joinL 32 (opW c.p.op)).toArray⟩) ⟨(by kernel_rfl), trivial⟩ (k := ?_)
      exact ⟨by rw [eo_, lineW_yes ok_ (fun k => absurd k (by omega))], K⟩
    · have ph12 := ne_of_beq_false h12
      refine WC.seq ?_
      refine WC.region ?_
      refine WL.op (d := 17) (.bool (c.p.kind == 2)) (k := ?_)
      refine WL.op (d := 16) (.bool (c.p.kind == 2)) (k := ?_)
      refine WL.nil ?_
      refine WX.seqN ?_
      refine WC.cond (b := c.p.kind == 2) (ht := fun h23 => ?_) (hf := fun h23 => ?_)
      · have ph23 := eq_of_beq h23
        refine WC.mixed (fun _ => False) 7 (k := fun w24 k25 => ?_)
        replace hb4 := k25.heap hb4 id
        replace K := K.trans (k25.any _)
        have KC := Keeps.refl (fun _ => False) w24
        have bh26 := hb4
        have Kb := K
        refine WA.quiet 0 (d := 18) (.pointer (some ⟨b1, 11, none⟩)) KC (hi := rfl) (k := ?_)
        refine WA.quietR 1 (d := 19) (.int .i64 c.p.id) KC (exec_load (fun w_ k_ => ld1 (T := 3) (i := 11) (k_.heap bh26 id))) (hi := rfl) (k := ?_)
        refine WA.quiet 3 (d := 21) (.pointer (some ⟨b1, 12, none⟩)) KC (hi := rfl) (k := ?_)
        refine WA.quietR 4 (d := 22) (.int .i64 c.p.work) KC (exec_load (fun w_ k_ => ld1 (T := 2) (i := 12) (k_.heap bh26 id))) (hi := rfl) (k := ?_)
        refine WA.step 2 (hi := rfl) (k := ?_)
        refine WL.callG (d := 20) (f := 35) (args := #[.int .i64 c.p.id]) (lnDigI_c (n := c.p.id) (hG.keeps K (fun _ _ x => x)) (by omega) (by omega)) (k := fun e_ w28 h_ => ⟨.string ⟨(Lib.itoa c.p.id).toArray⟩, h_.1, ?_⟩)
        have k29 := h_.2; clear h_
        replace hb4 := k29.heap hb4 id
        replace K := K.trans (k29.any _)
        replace KC := KC.trans (k29.any _)
        have il27 := itoa_le (n := c.p.id) (by omega) (by omega)
        refine WL.nil ?_
        refine WX.nxt KC ?_
        refine WA.step 5 (hi := rfl) (k := ?_)
        refine WL.callG (d := 23) (f := 36) (args := #[.int .i64 c.p.work]) (lnDigL_c (n := c.p.work) (hG.keeps K (fun _ _ x => x)) (by omega) (by omega)) (k := fun e_ w31 h_ => ⟨.string ⟨(Lib.itoa c.p.work).toArray⟩, h_.1, ?_⟩)
        have k32 := h_.2; clear h_
        replace hb4 := k32.heap hb4 id
        replace K := K.trans (k32.any _)
        replace KC := KC.trans (k32.any _)
        have il30 := itoa_le (n := c.p.work) (by omega) (by omega)
        refine WL.nil ?_
        refine WX.nxt KC ?_
        refine WA.step 6 (hi := rfl) (k := ?_)
        refine WL.newF (d := 24) (T := 9) #[.string ⟨#[114, 101, 108, 101, 97, 115, 101]⟩, .string ⟨(Lib.itoa c.p.id).toArray⟩, .string ⟨(Lib.itoa c.p.work).toArray⟩] (fun b => .slice (some ⟨b, 0, none⟩) 3 3) (k := fun b33 w34 g35 hb36 k37 => ?_)
        have z38 := Nat.le_trans K.size g35
        have zc39 := Nat.le_trans KC.size g35
        have n40 : b1 ≠ b33 := Nat.ne_of_lt (Nat.lt_of_lt_of_le (lt_of_heap hb4) g35)
        replace hb4 := k37.heap hb4 id
        replace K := K.trans (k37.any _)
        replace KC := KC.trans (k37.any _)
        refine WL.nil ?_
        refine WX.nxt KC ?_
        refine WA.step 7 (hi := rfl) (k := ?_)
        refine WL.op (d := 3) (.slice (some ⟨b33, 0, none⟩) 3 3) (k := ?_)
        refine WL.nil ?_
        refine WX.nxtL ?_
        refine WA.done (k := ?_)
        clear KC
        refine WX.blockN ?_
        refine WX.seqN ?_
        refine WC.seq ?_
        refine WC.region ?_
        refine WL.op (d := 69) (.slice (some ⟨b33, 0, none⟩) 3 3) (k := ?_)
        have ok_ := cok_t h11
        have eo_ : [[114, 101, 108, 101, 97, 115, 101], Lib.itoa c.p.id, Lib.itoa c.p.work] = cmdW c.p := by rw [cmdW, if_neg ph12, if_pos ph23]
        have jl_ := cmdW_jl ok_
        have cl_ := (cmdW_len ok_).2
        rw [← eo_] at jl_ cl_
        refine WL.callG (d := 70) (f := 38) (args := #[.slice (some ⟨b33, 0, none⟩) 3 3, .string ⟨#[32]⟩]) (lJoin_c (xs := [[114, 101, 108, 101, 97, 115, 101], Lib.itoa c.p.id, Lib.itoa c.p.work]) (c := 32) (cap := 3) (SlAt.of_lit (ys := [[114, 101, 108, 101, 97, 115, 101], Lib.itoa c.p.id, Lib.itoa c.p.work]) ekStr hb36 (by kernel_rfl)) (by simp) (by omega) (by omega)) (k := fun e_ w42 h_ => ⟨.string ⟨(joinL 32 [[114, 101, 108, 101, 97, 115, 101], Lib.itoa c.p.id, Lib.itoa c.p.work]).toArray⟩, h_.1, ?_⟩)
        have k43 := h_.2; clear h_
        replace hb4 := k43.heap hb4 id
        replace hb36 := k43.heap hb36 id
        replace K := K.trans (k43.any _)
        have jl41 := jl_
        refine WL.op (d := 2) (.string ⟨(joinL 32 [[114, 101, 108, 101, 97, 115, 101], Lib.itoa c.p.id, Lib.itoa c.p.work]).toArray⟩) (k := ?_)
        refine WL.nil ?_
        refine WX.seqN ?_
        refine WC.ret ?_
        refine WX.ret (rs := [.tmp 2]) [.string ⟨(joinL 32 [[114, 101, 108, 101, 97, 115, 101], Lib.itoa c.p.id, Lib.itoa c.p.work]).toArray⟩] (.string ⟨(joinL 32 [[114, 101, 108, 101, 97, 115, 101], Lib.itoa c.p.id, Lib.itoa c.p.work]).toArray⟩) ⟨(by kernel_rfl), trivial⟩ (k := ?_)
        exact ⟨by rw [eo_, lineW_yes ok_ (fun k => absurd k (by omega))], K⟩
      · have ph23 := ne_of_beq_false h23
        refine WC.seq ?_
        refine WC.region ?_
        refine WL.op (d := 26) (.bool (c.p.kind == 3)) (k := ?_)
        refine WL.op (d := 25) (.bool (c.p.kind == 3)) (k := ?_)
        refine WL.nil ?_
        refine WX.seqN ?_
        refine WC.cond (b := c.p.kind == 3) (ht := fun h44 => ?_) (hf := fun h44 => ?_)
        · have ph44 := eq_of_beq h44
          refine WC.mixed (fun _ => False) 7 (k := fun w45 k46 => ?_)
          replace hb4 := k46.heap hb4 id
          replace K := K.trans (k46.any _)
          have KC := Keeps.refl (fun _ => False) w45
          have bh47 := hb4
          have Kb := K
          refine WA.quiet 0 (d := 27) (.pointer (some ⟨b1, 11, none⟩)) KC (hi := rfl) (k := ?_)
          refine WA.quietR 1 (d := 28) (.int .i64 c.p.id) KC (exec_load (fun w_ k_ => ld1 (T := 3) (i := 11) (k_.heap bh47 id))) (hi := rfl) (k := ?_)
          refine WA.quiet 3 (d := 30) (.pointer (some ⟨b1, 12, none⟩)) KC (hi := rfl) (k := ?_)
          refine WA.quietR 4 (d := 31) (.int .i64 c.p.work) KC (exec_load (fun w_ k_ => ld1 (T := 2) (i := 12) (k_.heap bh47 id))) (hi := rfl) (k := ?_)
          refine WA.step 2 (hi := rfl) (k := ?_)
          refine WL.callG (d := 29) (f := 35) (args := #[.int .i64 c.p.id]) (lnDigI_c (n := c.p.id) (hG.keeps K (fun _ _ x => x)) (by omega) (by omega)) (k := fun e_ w49 h_ => ⟨.string ⟨(Lib.itoa c.p.id).toArray⟩, h_.1, ?_⟩)
          have k50 := h_.2; clear h_
          replace hb4 := k50.heap hb4 id
          replace K := K.trans (k50.any _)
          replace KC := KC.trans (k50.any _)
          have il48 := itoa_le (n := c.p.id) (by omega) (by omega)
          refine WL.nil ?_
          refine WX.nxt KC ?_
          refine WA.step 5 (hi := rfl) (k := ?_)
          refine WL.callG (d := 32) (f := 36) (args := #[.int .i64 c.p.work]) (lnDigL_c (n := c.p.work) (hG.keeps K (fun _ _ x => x)) (by omega) (by omega)) (k := fun e_ w52 h_ => ⟨.string ⟨(Lib.itoa c.p.work).toArray⟩, h_.1, ?_⟩)
          have k53 := h_.2; clear h_
          replace hb4 := k53.heap hb4 id
          replace K := K.trans (k53.any _)
          replace KC := KC.trans (k53.any _)
          have il51 := itoa_le (n := c.p.work) (by omega) (by omega)
          refine WL.nil ?_
          refine WX.nxt KC ?_
          refine WA.step 6 (hi := rfl) (k := ?_)
          refine WL.newF (d := 33) (T := 9) #[.string ⟨#[97, 115, 107]⟩, .string ⟨(Lib.itoa c.p.id).toArray⟩, .string ⟨(Lib.itoa c.p.work).toArray⟩] (fun b => .slice (some ⟨b, 0, none⟩) 3 3) (k := fun b54 w55 g56 hb57 k58 => ?_)
          have z59 := Nat.le_trans K.size g56
          have zc60 := Nat.le_trans KC.size g56
          have n61 : b1 ≠ b54 := Nat.ne_of_lt (Nat.lt_of_lt_of_le (lt_of_heap hb4) g56)
          replace hb4 := k58.heap hb4 id
          replace K := K.trans (k58.any _)
          replace KC := KC.trans (k58.any _)
          refine WL.nil ?_
          refine WX.nxt KC ?_
          refine WA.step 7 (hi := rfl) (k := ?_)
          refine WL.op (d := 3) (.slice (some ⟨b54, 0, none⟩) 3 3) (k := ?_)
          refine WL.nil ?_
          refine WX.nxtL ?_
          refine WA.done (k := ?_)
          clear KC
          refine WX.blockN ?_
          refine WX.seqN ?_
          refine WC.seq ?_
          refine WC.region ?_
          refine WL.op (d := 69) (.slice (some ⟨b54, 0, none⟩) 3 3) (k := ?_)
          have ok_ := cok_t h11
          have eo_ : [[97, 115, 107], Lib.itoa c.p.id, Lib.itoa c.p.work] = cmdW c.p := by rw [cmdW, if_neg ph12, if_neg ph23, if_pos ph44]
          have jl_ := cmdW_jl ok_
          have cl_ := (cmdW_len ok_).2
          rw [← eo_] at jl_ cl_
          refine WL.callG (d := 70) (f := 38) (args := #[.slice (some ⟨b54, 0, none⟩) 3 3, .string ⟨#[32]⟩]) (lJoin_c (xs := [[97, 115, 107], Lib.itoa c.p.id, Lib.itoa c.p.work]) (c := 32) (cap := 3) (SlAt.of_lit (ys := [[97, 115, 107], Lib.itoa c.p.id, Lib.itoa c.p.work]) ekStr hb57 (by kernel_rfl)) (by simp) (by omega) (by omega)) (k := fun e_ w63 h_ => ⟨.string ⟨(joinL 32 [[97, 115, 107], Lib.itoa c.p.id, Lib.itoa c.p.work]).toArray⟩, h_.1, ?_⟩)
          have k64 := h_.2; clear h_
          replace hb4 := k64.heap hb4 id
          replace hb57 := k64.heap hb57 id
          replace K := K.trans (k64.any _)
          have jl62 := jl_
          refine WL.op (d := 2) (.string ⟨(joinL 32 [[97, 115, 107], Lib.itoa c.p.id, Lib.itoa c.p.work]).toArray⟩) (k := ?_)
          refine WL.nil ?_
          refine WX.seqN ?_
          refine WC.ret ?_
          refine WX.ret (rs := [.tmp 2]) [.string ⟨(joinL 32 [[97, 115, 107], Lib.itoa c.p.id, Lib.itoa c.p.work]).toArray⟩] (.string ⟨(joinL 32 [[97, 115, 107], Lib.itoa c.p.id, Lib.itoa c.p.work]).toArray⟩) ⟨(by kernel_rfl), trivial⟩ (k := ?_)
          exact ⟨by rw [eo_, lineW_yes ok_ (fun k => absurd k (by omega))], K⟩
        · have ph44 := ne_of_beq_false h44
          refine WC.seq ?_
          refine WC.region ?_
          refine WL.op (d := 35) (.bool (c.p.kind == 4)) (k := ?_)
          refine WL.op (d := 34) (.bool (c.p.kind == 4)) (k := ?_)
          refine WL.nil ?_
          refine WX.seqN ?_
          refine WC.cond (b := c.p.kind == 4) (ht := fun h65 => ?_) (hf := fun h65 => ?_)
          · have ph65 := eq_of_beq h65
            refine WC.region ?_
            refine WL.op (d := 36) (.pointer (some ⟨b1, 13, none⟩)) (k := ?_)
            refine WL.load (v := .int .i64 c.p.n) (ld1 (T := 3) (i := 13) hb4) (k := ?_)
            refine WL.callG (d := 38) (f := 35) (args := #[.int .i64 c.p.n]) (lnDigI_c (n := c.p.n) (hG.keeps K (fun _ _ x => x)) (by omega) (by omega)) (k := fun e_ w67 h_ => ⟨.string ⟨(Lib.itoa c.p.n).toArray⟩, h_.1, ?_⟩)
            have k68 := h_.2; clear h_
            replace hb4 := k68.heap hb4 id
            replace K := K.trans (k68.any _)
            have il66 := itoa_le (n := c.p.n) (by omega) (by omega)
            refine WL.newF (d := 39) (T := 9) #[.string ⟨#[116, 105, 99, 107]⟩, .string ⟨(Lib.itoa c.p.n).toArray⟩] (fun b => .slice (some ⟨b, 0, none⟩) 2 2) (k := fun b69 w70 g71 hb72 k73 => ?_)
            have z74 := Nat.le_trans K.size g71
            have n75 : b1 ≠ b69 := Nat.ne_of_lt (Nat.lt_of_lt_of_le (lt_of_heap hb4) g71)
            replace hb4 := k73.heap hb4 id
            replace K := K.trans (k73.any _)
            refine WL.op (d := 3) (.slice (some ⟨b69, 0, none⟩) 2 2) (k := ?_)
            refine WL.nil ?_
            refine WX.blockN ?_
            refine WX.seqN ?_
            refine WC.seq ?_
            refine WC.region ?_
            refine WL.op (d := 69) (.slice (some ⟨b69, 0, none⟩) 2 2) (k := ?_)
            have ok_ := cok_t h11
            have eo_ : [[116, 105, 99, 107], Lib.itoa c.p.n] = cmdW c.p := by rw [cmdW, if_neg ph12, if_neg ph23, if_neg ph44, if_pos ph65]
            have jl_ := cmdW_jl ok_
            have cl_ := (cmdW_len ok_).2
            rw [← eo_] at jl_ cl_
            refine WL.callG (d := 70) (f := 38) (args := #[.slice (some ⟨b69, 0, none⟩) 2 2, .string ⟨#[32]⟩]) (lJoin_c (xs := [[116, 105, 99, 107], Lib.itoa c.p.n]) (c := 32) (cap := 2) (SlAt.of_lit (ys := [[116, 105, 99, 107], Lib.itoa c.p.n]) ekStr hb72 (by kernel_rfl)) (by simp) (by omega) (by omega)) (k := fun e_ w77 h_ => ⟨.string ⟨(joinL 32 [[116, 105, 99, 107], Lib.itoa c.p.n]).toArray⟩, h_.1, ?_⟩)
            have k78 := h_.2; clear h_
            replace hb4 := k78.heap hb4 id
            replace hb72 := k78.heap hb72 id
            replace K := K.trans (k78.any _)
            have jl76 := jl_
            refine WL.op (d := 2) (.string ⟨(joinL 32 [[116, 105, 99, 107], Lib.itoa c.p.n]).toArray⟩) (k := ?_)
            refine WL.nil ?_
            refine WX.seqN ?_
            refine WC.ret ?_
            refine WX.ret (rs := [.tmp 2]) [.string ⟨(joinL 32 [[116, 105, 99, 107], Lib.itoa c.p.n]).toArray⟩] (.string ⟨(joinL 32 [[116, 105, 99, 107], Lib.itoa c.p.n]).toArray⟩) ⟨(by kernel_rfl), trivial⟩ (k := ?_)
            exact ⟨by rw [eo_, lineW_yes ok_ (fun k => absurd k (by omega))], K⟩
          · have ph65 := ne_of_beq_false h65
            refine WC.seq ?_
            refine WC.region ?_
            refine WL.op (d := 41) (.bool (c.p.kind == 5)) (k := ?_)
            refine WL.op (d := 40) (.bool (c.p.kind == 5)) (k := ?_)
            refine WL.nil ?_
            refine WX.seqN ?_
            refine WC.cond (b := c.p.kind == 5) (ht := fun h79 => ?_) (hf := fun h79 => ?_)
            · have ph79 := eq_of_beq h79
              refine WC.region ?_
              refine WL.op (d := 42) (.pointer (some ⟨b1, 11, none⟩)) (k := ?_)
              refine WL.load (v := .int .i64 c.p.id) (ld1 (T := 3) (i := 11) hb4) (k := ?_)
              refine WL.callG (d := 44) (f := 35) (args := #[.int .i64 c.p.id]) (lnDigI_c (n := c.p.id) (hG.keeps K (fun _ _ x => x)) (by omega) (by omega)) (k := fun e_ w81 h_ => ⟨.string ⟨(Lib.itoa c.p.id).toArray⟩, h_.1, ?_⟩)
              have k82 := h_.2; clear h_
              replace hb4 := k82.heap hb4 id
              replace K := K.trans (k82.any _)
              have il80 := itoa_le (n := c.p.id) (by omega) (by omega)
              refine WL.newF (d := 45) (T := 9) #[.string ⟨#[113, 117, 101, 114, 121]⟩, .string ⟨(Lib.itoa c.p.id).toArray⟩] (fun b => .slice (some ⟨b, 0, none⟩) 2 2) (k := fun b83 w84 g85 hb86 k87 => ?_)
              have z88 := Nat.le_trans K.size g85
              have n89 : b1 ≠ b83 := Nat.ne_of_lt (Nat.lt_of_lt_of_le (lt_of_heap hb4) g85)
              replace hb4 := k87.heap hb4 id
              replace K := K.trans (k87.any _)
              refine WL.op (d := 3) (.slice (some ⟨b83, 0, none⟩) 2 2) (k := ?_)
              refine WL.nil ?_
              refine WX.blockN ?_
              refine WX.seqN ?_
              refine WC.seq ?_
              refine WC.region ?_
              refine WL.op (d := 69) (.slice (some ⟨b83, 0, none⟩) 2 2) (k := ?_)
              have ok_ := cok_t h11
              have eo_ : [[113, 117, 101, 114, 121], Lib.itoa c.p.id] = cmdW c.p := by rw [cmdW, if_neg ph12, if_neg ph23, if_neg ph44, if_neg ph65, if_pos ph79]
              have jl_ := cmdW_jl ok_
              have cl_ := (cmdW_len ok_).2
              rw [← eo_] at jl_ cl_
              refine WL.callG (d := 70) (f := 38) (args := #[.slice (some ⟨b83, 0, none⟩) 2 2, .string ⟨#[32]⟩]) (lJoin_c (xs := [[113, 117, 101, 114, 121], Lib.itoa c.p.id]) (c := 32) (cap := 2) (SlAt.of_lit (ys := [[113, 117, 101, 114, 121], Lib.itoa c.p.id]) ekStr hb86 (by kernel_rfl)) (by simp) (by omega) (by omega)) (k := fun e_ w91 h_ => ⟨.string ⟨(joinL 32 [[113, 117, 101, 114, 121], Lib.itoa c.p.id]).toArray⟩, h_.1, ?_⟩)
              have k92 := h_.2; clear h_
              replace hb4 := k92.heap hb4 id
              replace hb86 := k92.heap hb86 id
              replace K := K.trans (k92.any _)
              have jl90 := jl_
              refine WL.op (d := 2) (.string ⟨(joinL 32 [[113, 117, 101, 114, 121], Lib.itoa c.p.id]).toArray⟩) (k := ?_)
              refine WL.nil ?_
              refine WX.seqN ?_
              refine WC.ret ?_
              refine WX.ret (rs := [.tmp 2]) [.string ⟨(joinL 32 [[113, 117, 101, 114, 121], Lib.itoa c.p.id]).toArray⟩] (.string ⟨(joinL 32 [[113, 117, 101, 114, 121], Lib.itoa c.p.id]).toArray⟩) ⟨(by kernel_rfl), trivial⟩ (k := ?_)
              exact ⟨by rw [eo_, lineW_yes ok_ (fun k => absurd k (by omega))], K⟩
            · have ph79 := ne_of_beq_false h79
              refine WC.seq ?_
              refine WC.region ?_
              refine WL.op (d := 47) (.bool (c.p.kind == 6)) (k := ?_)
              refine WL.op (d := 46) (.bool (c.p.kind == 6)) (k := ?_)
              refine WL.nil ?_
              refine WX.seqN ?_
              refine WC.cond (b := c.p.kind == 6) (ht := fun h93 => ?_) (hf := fun h93 => ?_)
              · have ph93 := eq_of_beq h93
                refine WC.region ?_
                refine WL.newF (d := 48) (T := 9) #[.string ⟨#[115, 110, 97, 112, 115, 104, 111, 116]⟩] (fun b => .slice (some ⟨b, 0, none⟩) 1 1) (k := fun b94 w95 g96 hb97 k98 => ?_)
                have z99 := Nat.le_trans K.size g96
                have n100 : b1 ≠ b94 := Nat.ne_of_lt (Nat.lt_of_lt_of_le (lt_of_heap hb4) g96)
                replace hb4 := k98.heap hb4 id
                replace K := K.trans (k98.any _)
                refine WL.op (d := 3) (.slice (some ⟨b94, 0, none⟩) 1 1) (k := ?_)
                refine WL.nil ?_
                refine WX.blockN ?_
                refine WX.seqN ?_
                refine WC.seq ?_
                refine WC.region ?_
                refine WL.op (d := 69) (.slice (some ⟨b94, 0, none⟩) 1 1) (k := ?_)
                have ok_ := cok_t h11
                have eo_ : [[115, 110, 97, 112, 115, 104, 111, 116]] = cmdW c.p := by rw [cmdW, if_neg ph12, if_neg ph23, if_neg ph44, if_neg ph65, if_neg ph79, if_pos ph93]
                have jl_ := cmdW_jl ok_
                have cl_ := (cmdW_len ok_).2
                rw [← eo_] at jl_ cl_
                refine WL.callG (d := 70) (f := 38) (args := #[.slice (some ⟨b94, 0, none⟩) 1 1, .string ⟨#[32]⟩]) (lJoin_c (xs := [[115, 110, 97, 112, 115, 104, 111, 116]]) (c := 32) (cap := 1) (SlAt.of_lit (ys := [[115, 110, 97, 112, 115, 104, 111, 116]]) ekStr hb97 (by kernel_rfl)) (by simp) (by omega) (by omega)) (k := fun e_ w102 h_ => ⟨.string ⟨(joinL 32 [[115, 110, 97, 112, 115, 104, 111, 116]]).toArray⟩, h_.1, ?_⟩)
                have k103 := h_.2; clear h_
                replace hb4 := k103.heap hb4 id
                replace hb97 := k103.heap hb97 id
                replace K := K.trans (k103.any _)
                have jl101 := jl_
                refine WL.op (d := 2) (.string ⟨(joinL 32 [[115, 110, 97, 112, 115, 104, 111, 116]]).toArray⟩) (k := ?_)
                refine WL.nil ?_
                refine WX.seqN ?_
                refine WC.ret ?_
                refine WX.ret (rs := [.tmp 2]) [.string ⟨(joinL 32 [[115, 110, 97, 112, 115, 104, 111, 116]]).toArray⟩] (.string ⟨(joinL 32 [[115, 110, 97, 112, 115, 104, 111, 116]]).toArray⟩) ⟨(by kernel_rfl), trivial⟩ (k := ?_)
                exact ⟨by rw [eo_, lineW_yes ok_ (fun k => absurd k (by omega))], K⟩
              · have ph93 := ne_of_beq_false h93
                refine WC.seq ?_
                refine WC.region ?_
                refine WL.op (d := 50) (.bool (c.p.kind == 7)) (k := ?_)
                refine WL.op (d := 49) (.bool (c.p.kind == 7)) (k := ?_)
                refine WL.nil ?_
                refine WX.seqN ?_
                refine WC.cond (b := c.p.kind == 7) (ht := fun h104 => ?_) (hf := fun h104 => ?_)
                · have ph104 := eq_of_beq h104
                  refine WC.region ?_
                  refine WL.op (d := 51) (.pointer (some ⟨b1, 13, none⟩)) (k := ?_)
                  refine WL.load (v := .int .i64 c.p.n) (ld1 (T := 3) (i := 13) hb4) (k := ?_)
                  refine WL.callG (d := 53) (f := 35) (args := #[.int .i64 c.p.n]) (lnDigI_c (n := c.p.n) (hG.keeps K (fun _ _ x => x)) (by omega) (by omega)) (k := fun e_ w106 h_ => ⟨.string ⟨(Lib.itoa c.p.n).toArray⟩, h_.1, ?_⟩)
                  have k107 := h_.2; clear h_
                  replace hb4 := k107.heap hb4 id
                  replace K := K.trans (k107.any _)
                  have il105 := itoa_le (n := c.p.n) (by omega) (by omega)
                  refine WL.newF (d := 54) (T := 9) #[.string ⟨#[102, 97, 105, 108]⟩, .string ⟨(Lib.itoa c.p.n).toArray⟩] (fun b => .slice (some ⟨b, 0, none⟩) 2 2) (k := fun b108 w109 g110 hb111 k112 => ?_)
                  have z113 := Nat.le_trans K.size g110
                  have n114 : b1 ≠ b108 := Nat.ne_of_lt (Nat.lt_of_lt_of_le (lt_of_heap hb4) g110)
                  replace hb4 := k112.heap hb4 id
                  replace K := K.trans (k112.any _)
                  refine WL.op (d := 3) (.slice (some ⟨b108, 0, none⟩) 2 2) (k := ?_)
                  refine WL.nil ?_
                  refine WX.blockN ?_
                  refine WX.seqN ?_
                  refine WC.seq ?_
                  refine WC.region ?_
                  refine WL.op (d := 69) (.slice (some ⟨b108, 0, none⟩) 2 2) (k := ?_)
                  have ok_ := cok_t h11
                  have eo_ : [[102, 97, 105, 108], Lib.itoa c.p.n] = cmdW c.p := by rw [cmdW, if_neg ph12, if_neg ph23, if_neg ph44, if_neg ph65, if_neg ph79, if_neg ph93, if_pos ph104]
                  have jl_ := cmdW_jl ok_
                  have cl_ := (cmdW_len ok_).2
                  rw [← eo_] at jl_ cl_
                  refine WL.callG (d := 70) (f := 38) (args := #[.slice (some ⟨b108, 0, none⟩) 2 2, .string ⟨#[32]⟩]) (lJoin_c (xs := [[102, 97, 105, 108], Lib.itoa c.p.n]) (c := 32) (cap := 2) (SlAt.of_lit (ys := [[102, 97, 105, 108], Lib.itoa c.p.n]) ekStr hb111 (by kernel_rfl)) (by simp) (by omega) (by omega)) (k := fun e_ w116 h_ => ⟨.string ⟨(joinL 32 [[102, 97, 105, 108], Lib.itoa c.p.n]).toArray⟩, h_.1, ?_⟩)
                  have k117 := h_.2; clear h_
                  replace hb4 := k117.heap hb4 id
                  replace hb111 := k117.heap hb111 id
                  replace K := K.trans (k117.any _)
                  have jl115 := jl_
                  refine WL.op (d := 2) (.string ⟨(joinL 32 [[102, 97, 105, 108], Lib.itoa c.p.n]).toArray⟩) (k := ?_)
                  refine WL.nil ?_
                  refine WX.seqN ?_
                  refine WC.ret ?_
                  refine WX.ret (rs := [.tmp 2]) [.string ⟨(joinL 32 [[102, 97, 105, 108], Lib.itoa c.p.n]).toArray⟩] (.string ⟨(joinL 32 [[102, 97, 105, 108], Lib.itoa c.p.n]).toArray⟩) ⟨(by kernel_rfl), trivial⟩ (k := ?_)
                  exact ⟨by rw [eo_, lineW_yes ok_ (fun k => absurd k (by omega))], K⟩
                · have ph104 := ne_of_beq_false h104
                  refine WC.seq ?_
                  refine WC.region ?_
                  refine WL.op (d := 56) (.bool (c.p.kind == 8)) (k := ?_)
                  refine WL.op (d := 55) (.bool (c.p.kind == 8)) (k := ?_)
                  refine WL.nil ?_
                  refine WX.seqN ?_
                  refine WC.cond (b := c.p.kind == 8) (ht := fun h118 => ?_) (hf := fun h118 => ?_)
                  · have ph118 := eq_of_beq h118
                    refine WC.seq ?_
                    refine WC.region ?_
                    refine WL.op (d := 58) (.pointer (some ⟨b1, 14, none⟩)) (k := ?_)
                    refine WL.load (v := .slice c.A c.p.fs.length c.cap) (ld1 (T := 37) (i := 14) hb4) (k := ?_)
                    refine WL.callG (d := 60) (f := 37) (args := #[.slice c.A c.p.fs.length c.cap]) (lnFates_c (cp := c.cap) (hG.keeps K (fun _ _ x => x)) (hc.adds K) (by omega) okf_) (k := fun e_ w119 h_ => ?_)
                    obtain ⟨A120, c121, rfl, ho122, k123, ol124⟩ := h_
                    refine ⟨_, rfl, ?_⟩
                    have ol125 := fun i h => Nat.le_trans K.size (ol124 i h)
                    replace hb4 := k123.heap hb4 id
                    replace K := K.trans (k123.any _)
                    clear ol124
                    refine WL.op (d := 57) (.tuple #[.slice A120 ((fatesR c.p.fs).length) c121, .bool (fatesOk c.p.fs)]) (k := ?_)
                    refine WL.op (d := 61) (.slice A120 ((fatesR c.p.fs).length) c121) (k := ?_)
                    refine WL.op (d := 62) (.bool (fatesOk c.p.fs)) (k := ?_)
                    refine WL.op (d := 4) (.slice A120 ((fatesR c.p.fs).length) c121) (k := ?_)
                    refine WL.op (d := 5) (.bool (fatesOk c.p.fs)) (k := ?_)
                    refine WL.nil ?_
                    refine WX.seqN ?_
                    refine WC.seq ?_
                    refine WC.seq ?_
                    refine WC.region ?_
                    refine WL.op (d := 63) (.bool (fatesOk c.p.fs)) (k := ?_)
                    refine WL.op (d := 64) (.bool (!(fatesOk c.p.fs))) (k := ?_)
                    refine WL.nil ?_
                    refine WX.seqN ?_
                    refine WC.cond (b := !(fatesOk c.p.fs)) (ht := fun h126 => ?_) (hf := fun h126 => ?_)
                    · have h127 : (fatesOk c.p.fs) = false := Bool.not_inj (y := false) h126
                      refine WC.seq ?_
                      refine WC.region ?_
                      refine WL.op (d := 2) (.string ⟨#[]⟩) (k := ?_)
                      refine WL.nil ?_
                      refine WX.seqN ?_
                      refine WC.ret ?_
                      refine WX.seqR ?_
                      refine WX.blockR ?_
                      refine WX.seqR ?_
                      refine WX.ret (rs := [.tmp 2]) [.string ⟨#[]⟩] (.string ⟨#[]⟩) ⟨(by kernel_rfl), trivial⟩ (k := ?_)
                      exact ⟨by rw [lineW_not ph118 h127], K⟩
                    · have h128 : (fatesOk c.p.fs) = true := Bool.not_inj (y := true) h126
                      refine WC.skip ?_
                      refine WX.seqN ?_
                      refine WC.region ?_
                      refine WL.op (d := 65) (.slice A120 ((fatesR c.p.fs).length) c121) (k := ?_)
                      refine WL.op (d := 3) (.slice A120 ((fatesR c.p.fs).length) c121) (k := ?_)
                      refine WL.nil ?_
                      refine WX.blockN ?_
                      refine WX.seqN ?_
                      refine WC.seq ?_
                      refine WC.region ?_
                      refine WL.op (d := 69) (.slice A120 ((fatesR c.p.fs).length) c121) (k := ?_)
                      have ok_ := cok_t h11
                      have eo_ : fatesR c.p.fs = cmdW c.p := by rw [fatesR, if_pos h128, cmdW, if_neg ph12, if_neg ph23, if_neg ph44, if_neg ph65, if_neg ph79, if_neg ph93, if_neg ph104, if_pos ph118]
                      have jl_ := cmdW_jl ok_
                      have cl_ := (cmdW_len ok_).2
                      rw [← eo_] at jl_ cl_
                      refine WL.callG (d := 70) (f := 38) (args := #[.slice A120 ((fatesR c.p.fs).length) c121, .string ⟨#[32]⟩]) (lJoin_c (xs := fatesR c.p.fs) (c := 32) (cap := c121) (ho122.sl ekStr) (SlAt.cell ho122) (by omega) (by omega)) (k := fun e_ w130 h_ => ⟨.string ⟨(joinL 32 (fatesR c.p.fs)).toArray⟩, h_.1, ?_⟩)
                      have k131 := h_.2; clear h_
                      replace hb4 := k131.heap hb4 id
                      replace ho122 := ho122.adds k131
                      replace K := K.trans (k131.any _)
                      have jl129 := jl_
                      refine WL.op (d := 2) (.string ⟨(joinL 32 (fatesR c.p.fs)).toArray⟩) (k := ?_)
                      refine WL.nil ?_
                      refine WX.seqN ?_
                      refine WC.ret ?_
                      refine WX.ret (rs := [.tmp 2]) [.string ⟨(joinL 32 (fatesR c.p.fs)).toArray⟩] (.string ⟨(joinL 32 (fatesR c.p.fs)).toArray⟩) ⟨(by kernel_rfl), trivial⟩ (k := ?_)
                      exact ⟨by rw [eo_, lineW_yes ok_ (fun _ => h128)], K⟩
                  · have ph118 := ne_of_beq_false h118
                    refine WC.seq ?_
                    refine WC.region ?_
                    refine WL.op (d := 67) (.bool (c.p.kind == 9)) (k := ?_)
                    refine WL.op (d := 66) (.bool (c.p.kind == 9)) (k := ?_)
                    refine WL.nil ?_
                    refine WX.seqN ?_
                    refine WC.cond (b := c.p.kind == 9) (ht := fun h132 => ?_) (hf := fun h132 => ?_)
                    · have ph132 := eq_of_beq h132
                      refine WC.region ?_
                      refine WL.newF (d := 68) (T := 9) #[.string ⟨#[115, 116, 97, 114, 116]⟩] (fun b => .slice (some ⟨b, 0, none⟩) 1 1) (k := fun b133 w134 g135 hb136 k137 => ?_)
                      have z138 := Nat.le_trans K.size g135
                      have n139 : b1 ≠ b133 := Nat.ne_of_lt (Nat.lt_of_lt_of_le (lt_of_heap hb4) g135)
                      replace hb4 := k137.heap hb4 id
                      replace K := K.trans (k137.any _)
                      refine WL.op (d := 3) (.slice (some ⟨b133, 0, none⟩) 1 1) (k := ?_)
                      refine WL.nil ?_
                      refine WX.blockN ?_
                      refine WX.seqN ?_
                      refine WC.seq ?_
                      refine WC.region ?_
                      refine WL.op (d := 69) (.slice (some ⟨b133, 0, none⟩) 1 1) (k := ?_)
                      have ok_ := cok_t h11
                      have eo_ : [[115, 116, 97, 114, 116]] = cmdW c.p := by rw [cmdW, if_neg ph12, if_neg ph23, if_neg ph44, if_neg ph65, if_neg ph79, if_neg ph93, if_neg ph104, if_neg ph118, if_pos ph132]
                      have jl_ := cmdW_jl ok_
                      have cl_ := (cmdW_len ok_).2
                      rw [← eo_] at jl_ cl_
                      refine WL.callG (d := 70) (f := 38) (args := #[.slice (some ⟨b133, 0, none⟩) 1 1, .string ⟨#[32]⟩]) (lJoin_c (xs := [[115, 116, 97, 114, 116]]) (c := 32) (cap := 1) (SlAt.of_lit (ys := [[115, 116, 97, 114, 116]]) ekStr hb136 (by kernel_rfl)) (by simp) (by omega) (by omega)) (k := fun e_ w141 h_ => ⟨.string ⟨(joinL 32 [[115, 116, 97, 114, 116]]).toArray⟩, h_.1, ?_⟩)
                      have k142 := h_.2; clear h_
                      replace hb4 := k142.heap hb4 id
                      replace hb136 := k142.heap hb136 id
                      replace K := K.trans (k142.any _)
                      have jl140 := jl_
                      refine WL.op (d := 2) (.string ⟨(joinL 32 [[115, 116, 97, 114, 116]]).toArray⟩) (k := ?_)
                      refine WL.nil ?_
                      refine WX.seqN ?_
                      refine WC.ret ?_
                      refine WX.ret (rs := [.tmp 2]) [.string ⟨(joinL 32 [[115, 116, 97, 114, 116]]).toArray⟩] (.string ⟨(joinL 32 [[115, 116, 97, 114, 116]]).toArray⟩) ⟨(by kernel_rfl), trivial⟩ (k := ?_)
                      exact ⟨by rw [eo_, lineW_yes ok_ (fun k => absurd k (by omega))], K⟩
                    · have ph132 := ne_of_beq_false h132
                      refine WC.skip ?_
                      refine WX.blockN ?_
                      refine WX.seqN ?_
                      refine WC.seq ?_
                      refine WC.region ?_
                      refine WL.op (d := 69) (.slice none 0 0) (k := ?_)
                      have ok_ := cok_t h11
                      have eo_ : [] = cmdW c.p := by rw [cmdW, if_neg ph12, if_neg ph23, if_neg ph44, if_neg ph65, if_neg ph79, if_neg ph93, if_neg ph104, if_neg ph118, if_neg ph132]
                      have jl_ := cmdW_jl ok_
                      have cl_ := (cmdW_len ok_).2
                      rw [← eo_] at jl_ cl_
                      refine WL.callG (d := 70) (f := 38) (args := #[.slice none 0 0, .string ⟨#[32]⟩]) (lJoin_c (xs := []) (c := 32) (cap := 0) SlAt.nil (by simp) (by omega) (by omega)) (k := fun e_ w144 h_ => ⟨.string ⟨(joinL 32 []).toArray⟩, h_.1, ?_⟩)
                      have k145 := h_.2; clear h_
                      replace hb4 := k145.heap hb4 id
                      replace K := K.trans (k145.any _)
                      have jl143 := jl_
                      refine WL.op (d := 2) (.string ⟨(joinL 32 []).toArray⟩) (k := ?_)
                      refine WL.nil ?_
                      refine WX.seqN ?_
                      refine WC.ret ?_
                      refine WX.ret (rs := [.tmp 2]) [.string ⟨(joinL 32 []).toArray⟩] (.string ⟨(joinL 32 []).toArray⟩) ⟨(by kernel_rfl), trivial⟩ (k := ?_)
                      exact ⟨by rw [eo_, lineW_yes ok_ (fun k => absurd k (by omega))], K⟩
theorem lSplit_k {w : World} {l : List UInt8} {c : UInt8} (h : GB w) (hl : l.length < 4294967281) : Calls Tryz.prog 20 #[.string ⟨l.toArray⟩, .string ⟨#[c]⟩] w fun e w' => ∃ A cap, e = .returned (.slice A (splitL c l).length cap) ∧ OwAt strC 1 9 A cap (splitL c l) w' ∧ Adds w w' ∧ (∀ i, blk A = some i → w.heap.size ≤ i) :=
  (lSplit_c h hl).mono fun e w' ⟨A, cap, h1, h2, h3, h4⟩ => ⟨A, cap, h1, h2, h4, h3⟩
set_option maxRecDepth 100000 in
set_option maxHeartbeats 4000000 in
theorem lnParseTask_c {l : List UInt8} (hl : l.length ≤ 4294967000) {w : World} (hG : GB w) : Calls Tryz.prog 10 #[.string ⟨l.toArray⟩] w fun e w' => e = .returned (.tuple #[(taskV l).val, .bool (decide (taskP l))]) ∧ Adds w w' := by
  have K : Keeps (fun _ => False) w w := Keeps.refl _ w
  refine Calls.start Tryz.func10 rfl (by kernel_rfl) ?_
  refine WC.seq ?_
  refine WC.region ?_
  refine WL.new (d := 2) (T := 29) #[.int .i64 0, .int .i64 0, .int .i64 0, .int .i64 0, .int .i64 0] (k := fun b1 w2 g3 hb4 k5 => ?_)
  have z6 := Nat.le_trans K.size g3
  replace K := K.trans (k5.any _)
  refine WL.op (d := 3) (.bool false) (k := ?_)
  refine WL.nil ?_
  refine WX.seqN ?_
  refine WC.seq ?_
  refine WC.region ?_
  refine WL.op (d := 15) (.string ⟨(l).toArray⟩) (k := ?_)
  refine WL.callG (d := 16) (f := 28) (args := #[.string ⟨(l).toArray⟩, .string ⟨#[58]⟩]) (lCut_c (l := l) (c := 58) (hG.keeps K (fun _ _ x => x)) (by omega)) (k := fun e_ w9 h_ => ⟨.tuple #[.string ⟨((Lib.cut l [58]).1).toArray⟩, .string ⟨((Lib.cut l [58]).2.1).toArray⟩, .bool ((Lib.cut l [58]).2.2)], h_.1, ?_⟩)
  have k10 := h_.2; clear h_
  replace hb4 := k10.heap hb4 id
  replace K := K.trans (k10.any _)
  have cl7 := cut_le1 l 58
  have cl8 := cut_le2 l 58
  refine WL.op (d := 14) (.tuple #[.string ⟨((Lib.cut l [58]).1).toArray⟩, .string ⟨((Lib.cut l [58]).2.1).toArray⟩, .bool ((Lib.cut l [58]).2.2)]) (k := ?_)
  refine WL.op (d := 17) (.string ⟨((Lib.cut l [58]).1).toArray⟩) (k := ?_)
  refine WL.op (d := 18) (.string ⟨((Lib.cut l [58]).2.1).toArray⟩) (k := ?_)
  refine WL.op (d := 19) (.bool ((Lib.cut l [58]).2.2)) (k := ?_)
  refine WL.op (d := 4) (.string ⟨((Lib.cut l [58]).1).toArray⟩) (k := ?_)
  refine WL.op (d := 5) (.string ⟨((Lib.cut l [58]).2.1).toArray⟩) (k := ?_)
  refine WL.op (d := 6) (.bool ((Lib.cut l [58]).2.2)) (k := ?_)
  refine WL.nil ?_
  refine WX.seqN ?_
  refine WC.seq ?_
  refine WC.region ?_
  refine WL.op (d := 20) (.string ⟨((Lib.cut l [58]).2.1).toArray⟩) (k := ?_)
  refine WL.callG (d := 21) (f := 20) (args := #[.string ⟨((Lib.cut l [58]).2.1).toArray⟩, .string ⟨#[47]⟩]) (lSplit_k (c := 47) (l := ((Lib.cut l [58]).2.1)) (hG.keeps K (fun _ _ x => x)) (by omega)) (k := fun e_ w11 h_ => ?_)
  obtain ⟨A12, c13, rfl, ho14, k15, ol16⟩ := h_
  refine ⟨_, rfl, ?_⟩
  have ol17 := fun i h => Nat.le_trans K.size (ol16 i h)
  replace hb4 := k15.heap hb4 id
  replace K := K.trans (k15.any _)
  clear ol16
  refine WL.op (d := 7) (.slice A12 ((splitL 47 ((Lib.cut l [58]).2.1)).length) c13) (k := ?_)
  refine WL.nil ?_
  refine WX.seqN ?_
  refine WC.seq ?_
  refine WC.seq ?_
  refine WC.region ?_
  refine WL.op (d := 22) (.bool ((Lib.cut l [58]).2.2)) (k := ?_)
  refine WL.op (d := 23) (.bool (!((Lib.cut l [58]).2.2))) (k := ?_)
  refine WL.op (d := 24) (.bool (!((Lib.cut l [58]).2.2))) (k := ?_)
  refine bsplit (!((Lib.cut l [58]).2.2)) (fun h18 => ?_) (fun h18 => ?_)
  · have h19 : ((Lib.cut l [58]).2.2) = false := Bool.not_inj (y := false) h18
    refine WL.rw (t := 24) (v := .bool true) (congrArg Value.bool h18) (k := ?_)
    refine WL.skip (d := 25) (k := ?_)
    refine WL.skip (d := 26) (k := ?_)
    refine WL.skip (d := 27) (k := ?_)
    refine WL.op (d := 28) (.bool true) (k := ?_)
    refine WL.nil ?_
    refine WX.seqN ?_
    refine WC.condT (k := ?_)
    refine WC.seq ?_
    refine WC.region ?_
    refine WL.op (d := 29) (.agg #[.int .i64 0, .int .i64 0, .int .i64 0, .int .i64 0, .int .i64 0]) (k := ?_)
    refine WL.store (v := .agg #[.int .i64 0, .int .i64 0, .int .i64 0, .int .i64 0, .int .i64 0]) (i := 0) (cs' := #[.int .i64 0, .int .i64 0, .int .i64 0, .int .i64 0, .int .i64 0]) hb4 (k := fun w20 hb21 k22 => ?_)
    replace ho14 := ho14.keeps k22 (fun i hi e => (ho14.offT hb4 (by decide)) (e ▸ hi))
    replace K := K.trans' k22 (fun i hi e => absurd (e ▸ hi) (Nat.not_lt.2 z6))
    clear hb4
    refine WL.op (d := 3) (.bool false) (k := ?_)
    refine WL.nil ?_
    refine WX.seqN ?_
    refine WC.ret ?_
    refine WX.seqR ?_
    refine WX.ret (rs := [.cell 2 29, .tmp 3]) [.agg #[.int .i64 0, .int .i64 0, .int .i64 0, .int .i64 0, .int .i64 0], .bool false] (.tuple #[.agg #[.int .i64 0, .int .i64 0, .int .i64 0, .int .i64 0, .int .i64 0], .bool false]) ⟨⟨_, (by kernel_rfl), ldN (T := 29) (i := 0) (m := 5) (l := [.int .i64 0, .int .i64 0, .int .i64 0, .int .i64 0, .int .i64 0]) hb21⟩, (by kernel_rfl), trivial⟩ (k := ?_)
    obtain ⟨e1_, e2_⟩ := task_no (s := l) (fun k_ => by rw [k_.1] at h19; cases h19)
    exact ⟨by rw [e1_, e2_], K⟩
  have h23 : ((Lib.cut l [58]).2.2) = true := Bool.not_inj (y := true) h18
  refine WL.rw (t := 24) (v := .bool false) (congrArg Value.bool h18) (k := ?_)
  refine WL.op (d := 25) (.slice A12 ((splitL 47 ((Lib.cut l [58]).2.1)).length) c13) (k := ?_)
  refine WL.op (d := 26) (.int .i64 ((splitL 47 ((Lib.cut l [58]).2.1)).length : Int)) (k := ?_)
  refine WL.op (d := 27) (.bool (((splitL 47 ((Lib.cut l [58]).2.1)).length : Int) != 4)) (k := ?_)
  refine WL.op (d := 28) (.bool (((splitL 47 ((Lib.cut l [58]).2.1)).length : Int) != 4)) (k := ?_)
  refine WL.nil ?_
  refine WX.seqN ?_
  refine WC.cond (b := ((splitL 47 ((Lib.cut l [58]).2.1)).length : Int) != 4) (ht := fun h24 => ?_) (hf := fun h24 => ?_)
  · have ph24 := bne_iff_ne.1 h24
    refine WC.seq ?_
    refine WC.region ?_
    refine WL.op (d := 29) (.agg #[.int .i64 0, .int .i64 0, .int .i64 0, .int .i64 0, .int .i64 0]) (k := ?_)
    refine WL.store (v := .agg #[.int .i64 0, .int .i64 0, .int .i64 0, .int .i64 0, .int .i64 0]) (i := 0) (cs' := #[.int .i64 0, .int .i64 0, .int .i64 0, .int .i64 0, .int .i64 0]) hb4 (k := fun w25 hb26 k27 => ?_)
    replace ho14 := ho14.keeps k27 (fun i hi e => (ho14.offT hb4 (by decide)) (e ▸ hi))
    replace K := K.trans' k27 (fun i hi e => absurd (e ▸ hi) (Nat.not_lt.2 z6))
    clear hb4
    refine WL.op (d := 3) (.bool false) (k := ?_)
    refine WL.nil ?_
    refine WX.seqN ?_
    refine WC.ret ?_
    refine WX.seqR ?_
    refine WX.ret (rs := [.cell 2 29, .tmp 3]) [.agg #[.int .i64 0, .int .i64 0, .int .i64 0, .int .i64 0, .int .i64 0], .bool false] (.tuple #[.agg #[.int .i64 0, .int .i64 0, .int .i64 0, .int .i64 0, .int .i64 0], .bool false]) ⟨⟨_, (by kernel_rfl), ldN (T := 29) (i := 0) (m := 5) (l := [.int .i64 0, .int .i64 0, .int .i64 0, .int .i64 0, .int .i64 0]) hb26⟩, (by kernel_rfl), trivial⟩ (k := ?_)
    obtain ⟨e1_, e2_⟩ := task_no (s := l) (task_nolen (fun k_ => by unfold taskL at k_; simp only [List.length_append, List.length_cons, List.length_nil] at k_; omega))
    exact ⟨by rw [e1_, e2_], K⟩
  · have ph24 := of_bne_false h24
    refine WC.skip ?_
    refine WX.seqN ?_
    refine WC.seq ?_
    refine WC.region ?_
    refine WL.new (d := 8) (T := 59) #[.int .i64 0, .int .i64 0, .int .i64 0, .int .i64 0, .int .i64 0] (k := fun b28 w29 g30 hb31 k32 => ?_)
    have z33 := Nat.le_trans K.size g30
    have n34 : b1 ≠ b28 := Nat.ne_of_lt (Nat.lt_of_lt_of_le (lt_of_heap hb4) g30)
    have n35 := OwAt.off_new ho14 g30
    replace hb4 := k32.heap hb4 id
    replace ho14 := ho14.adds k32
    replace K := K.trans (k32.any _)
    refine WL.nil ?_
    refine WX.seqN ?_
    refine WC.seq ?_
    refine WC.seq ?_
    refine WC.region ?_
    refine WL.op (d := 30) (.slice A12 ((splitL 47 ((Lib.cut l [58]).2.1)).length) c13) (k := ?_)
    refine WL.op (d := 31) (.string ⟨((Lib.cut l [58]).1).toArray⟩) (k := ?_)
    refine WL.newF (d := 32) (T := 9) #[.string ⟨((Lib.cut l [58]).1).toArray⟩] (fun b => .slice (some ⟨b, 0, none⟩) 1 1) (k := fun b36 w37 g38 hb39 k40 => ?_)
    have z41 := Nat.le_trans K.size g38
    have n42 : b1 ≠ b36 := Nat.ne_of_lt (Nat.lt_of_lt_of_le (lt_of_heap hb4) g38)
    have n43 := OwAt.off_new ho14 g38
    have n44 : b28 ≠ b36 := Nat.ne_of_lt (Nat.lt_of_lt_of_le (lt_of_heap hb31) g38)
    replace hb4 := k40.heap hb4 id
    replace ho14 := ho14.adds k40
    replace hb31 := k40.heap hb31 id
    replace K := K.trans (k40.any _)
    refine WL.append (d := 33) (T := 43) (cl := strC) (xs := splitL 47 ((Lib.cut l [58]).2.1)) (ys := [(Lib.cut l [58]).1]) (c := 1) ekStr ho14 (SlAt.of_lit (ys := [(Lib.cut l [58]).1]) ekStr hb39 (by kernel_rfl)) (by simp; omega) (k := fun A45 c46 w47 ho48 k49 n50 => ?_)
    have ol51 := olink_step ol17 K n50
    have n52 := off_step n50 n35 (lt_of_heap hb31)
    replace hb4 := k49.heap hb4 (ho14.offT hb4 (by decide))
    replace hb31 := k49.heap hb31 n35
    replace K := K.trans' k49 (fun i hi e => absurd hi (Nat.not_lt.2 (ol17 i e)))
    clear ho14
    refine WL.op (d := 34) (.int .i64 ((splitL 47 ((Lib.cut l [58]).2.1) ++ [(Lib.cut l [58]).1]).length : Int)) (k := ?_)
    refine WL.op (d := 35) (.int .i64 0) (k := ?_)
    refine WL.nil ?_
    refine WX.seqN ?_
    refine WC.block ?_
    refine WC.rounds 5 ?_
    refine WC.seq ?_
    have l5_ : List.length (splitL 47 ((Lib.cut l [58]).2.1) ++ [(Lib.cut l [58]).1]) = 5 := by simp only [List.length_append, List.length_cons, List.length_nil]; omega
    refine WC.rw (t := 34) (v := .int .i64 5) (congrArg (Value.int .i64) (show (List.length (splitL 47 ((Lib.cut l [58]).2.1) ++ [(Lib.cut l [58]).1]) : Int) = 5 by omega)) (k := ?_)
    refine WC.region ?_
    refine WL.op (d := 36) (.bool true) (k := ?_)
    refine WL.nil ?_
    refine WX.seqN ?_
    refine WC.seq ?_
    refine WC.condT (k := ?_)
    refine WC.skip ?_
    refine WX.seqN ?_
    refine WC.seq ?_
    refine WC.block ?_
    refine WC.seq ?_
    refine WC.region ?_
    refine WL.op (d := 37) (.int .i64 0) (k := ?_)
    obtain ⟨b53, o54, r55, hr56, hA57, he58⟩ := SlAt.at (ho48.sl ekStr) (i := 0) (by omega) (by omega)
    refine WL.rw (t := 33) (v := .slice (some ⟨b53, o54, none⟩) ((splitL 47 ((Lib.cut l [58]).2.1) ++ [(Lib.cut l [58]).1]).length) c46) (congrArg (fun a => Value.slice a ((splitL 47 ((Lib.cut l [58]).2.1) ++ [(Lib.cut l [58]).1]).length) c46) hA57) (k := ?_)
    have tl59 := taskL_le (s := l) (List.mem_of_getElem? hr56)
    refine WL.idx (T := 43) (E := 9) (m := 1) (b := b53) (o := o54) (len := (splitL 47 ((Lib.cut l [58]).2.1) ++ [(Lib.cut l [58]).1]).length) (cap := c46) (i := 0) (kk := .i64) (d := 38) (by omega) (by omega) (k := ?_)
    refine WL.rw (t := 33) (v := .slice A45 ((splitL 47 ((Lib.cut l [58]).2.1) ++ [(Lib.cut l [58]).1]).length) c46) (congrArg (fun a => Value.slice a ((splitL 47 ((Lib.cut l [58]).2.1) ++ [(Lib.cut l [58]).1]).length) c46) (Eq.symm hA57)) (k := ?_)
    refine WL.load (v := .string ⟨(r55).toArray⟩) (he58.ld0 (T := 9)) (k := ?_)
    refine WL.op (d := 9) (.int .i64 0) (k := ?_)
    refine WL.op (d := 10) (.string ⟨(r55).toArray⟩) (k := ?_)
    refine WL.nil ?_
    refine WX.seqN ?_
    refine WC.seq ?_
    refine WC.region ?_
    refine WL.op (d := 41) (.string ⟨(r55).toArray⟩) (k := ?_)
    refine WL.callG (d := 42) (f := 29) (args := #[.string ⟨(r55).toArray⟩]) (lnNumber_c (l := r55) (by show List.length r55 ≤ _; first | omega | (simp; done) | (simp; omega)) w47) (k := fun e_ w61 h_ => ⟨.tuple #[.int .i64 ((numV r55 : Nat) : Int), .bool (decide (numP r55))], h_.1, ?_⟩)
    have k62 := h_.2; clear h_
    replace hb4 := k62.heap hb4 id
    replace ho48 := ho48.adds k62
    replace hb31 := k62.heap hb31 id
    replace he58 := he58.adds k62
    replace K := K.trans (k62.any _)
    have nv60 := numV_le r55
    refine WL.op (d := 40) (.tuple #[.int .i64 ((numV r55 : Nat) : Int), .bool (decide (numP r55))]) (k := ?_)
    refine WL.op (d := 43) (.int .i64 ((numV r55 : Nat) : Int)) (k := ?_)
    refine WL.op (d := 44) (.bool (decide (numP r55))) (k := ?_)
    refine WL.op (d := 11) (.int .i64 ((numV r55 : Nat) : Int)) (k := ?_)
    refine WL.op (d := 12) (.bool (decide (numP r55))) (k := ?_)
    refine WL.nil ?_
    refine WX.seqN ?_
    refine WC.seq ?_
    refine WC.seq ?_
    refine WC.region ?_
    refine WL.op (d := 45) (.bool (decide (numP r55))) (k := ?_)
    refine WL.op (d := 46) (.bool (!(decide (numP r55)))) (k := ?_)
    refine WL.nil ?_
    refine WX.seqN ?_
    refine WC.cond (b := !(decide (numP r55))) (ht := fun h63 => ?_) (hf := fun h63 => ?_)
    · have h64 : (decide (numP r55)) = false := Bool.not_inj (y := false) h63
      have ph64 := of_decide_eq_false h64
      refine WC.seq ?_
      refine WC.region ?_
      refine WL.op (d := 47) (.agg #[.int .i64 0, .int .i64 0, .int .i64 0, .int .i64 0, .int .i64 0]) (k := ?_)
      refine WL.store (v := .agg #[.int .i64 0, .int .i64 0, .int .i64 0, .int .i64 0, .int .i64 0]) (i := 0) (cs' := #[.int .i64 0, .int .i64 0, .int .i64 0, .int .i64 0, .int .i64 0]) hb4 (k := fun w65 hb66 k67 => ?_)
      replace ho48 := ho48.keeps k67 (fun i hi e => (ho48.offT hb4 (by decide)) (e ▸ hi))
      replace hb31 := k67.heap hb31 (Ne.symm n34)
      replace K := K.trans' k67 (fun i hi e => absurd (e ▸ hi) (Nat.not_lt.2 z6))
      clear hb4
      refine WL.op (d := 3) (.bool false) (k := ?_)
      refine WL.nil ?_
      refine WX.seqN ?_
      refine WC.ret ?_
      refine WX.seqR ?_
      refine WX.blockR ?_
      refine WX.seqR ?_
      refine WX.seqR ?_
      refine WX.blockR ?_
      refine WX.seqR ?_
      refine WX.ret (rs := [.cell 2 29, .tmp 3]) [.agg #[.int .i64 0, .int .i64 0, .int .i64 0, .int .i64 0, .int .i64 0], .bool false] (.tuple #[.agg #[.int .i64 0, .int .i64 0, .int .i64 0, .int .i64 0, .int .i64 0], .bool false]) ⟨⟨_, (by kernel_rfl), ldN (T := 29) (i := 0) (m := 5) (l := [.int .i64 0, .int .i64 0, .int .i64 0, .int .i64 0, .int .i64 0]) hb66⟩, (by kernel_rfl), trivial⟩ (k := ?_)
      obtain ⟨e1_, e2_⟩ := task_no (s := l) (task_nonum (i := 0) hr56 ph64)
      exact ⟨by rw [e1_, e2_], K⟩
    · have h68 : (decide (numP r55)) = true := Bool.not_inj (y := true) h63
      have ph68 := of_decide_eq_true h68
      refine WC.skip ?_
      refine WX.seqN ?_
      refine WC.region ?_
      refine WL.op (d := 48) (.int .i64 0) (k := ?_)
      refine WL.op (d := 49) (.int .i64 ((numV r55 : Nat) : Int)) (k := ?_)
      refine WL.op (d := 50) (.pointer (some ⟨b28, 0, none⟩)) (k := ?_)
      refine WL.store (v := .int .i64 ((numV r55 : Nat) : Int)) (i := 0) (cs' := #[.int .i64 ((numV r55 : Nat) : Int), .int .i64 0, .int .i64 0, .int .i64 0, .int .i64 0]) hb31 (k := fun w69 hb70 k71 => ?_)
      replace hb4 := k71.heap hb4 n34
      replace ho48 := ho48.keeps k71 (fun i hi e => (n52) (e ▸ hi))
      replace K := K.trans' k71 (fun i hi e => absurd (e ▸ hi) (Nat.not_lt.2 z33))
      clear hb31
      refine WL.nil ?_
      refine WX.blockN ?_
      refine WX.seqN ?_
      refine WC.region ?_
      refine WL.op (d := 51) (.int .i64 1) (k := ?_)
      refine WL.op (d := 35) (.int .i64 1) (k := ?_)
      refine WL.nil ?_
      refine WX.more ?_
      refine WC.seq ?_
      refine WC.region ?_
      refine WL.op (d := 36) (.bool true) (k := ?_)
      refine WL.nil ?_
      refine WX.seqN ?_
      refine WC.seq ?_
      refine WC.condT (k := ?_)
      refine WC.skip ?_
      refine WX.seqN ?_
      refine WC.seq ?_
      refine WC.block ?_
      refine WC.seq ?_
      refine WC.region ?_
      refine WL.op (d := 37) (.int .i64 1) (k := ?_)
      obtain ⟨b72, o73, r74, hr75, hA76, he77⟩ := SlAt.at (ho48.sl ekStr) (i := 1) (by omega) (by omega)
      refine WL.rw (t := 33) (v := .slice (some ⟨b72, o73, none⟩) ((splitL 47 ((Lib.cut l [58]).2.1) ++ [(Lib.cut l [58]).1]).length) c46) (congrArg (fun a => Value.slice a ((splitL 47 ((Lib.cut l [58]).2.1) ++ [(Lib.cut l [58]).1]).length) c46) hA76) (k := ?_)
      have tl78 := taskL_le (s := l) (List.mem_of_getElem? hr75)
      refine WL.idx (T := 43) (E := 9) (m := 1) (b := b72) (o := o73) (len := (splitL 47 ((Lib.cut l [58]).2.1) ++ [(Lib.cut l [58]).1]).length) (cap := c46) (i := 1) (kk := .i64) (d := 38) (by omega) (by omega) (k := ?_)
      refine WL.rw (t := 33) (v := .slice A45 ((splitL 47 ((Lib.cut l [58]).2.1) ++ [(Lib.cut l [58]).1]).length) c46) (congrArg (fun a => Value.slice a ((splitL 47 ((Lib.cut l [58]).2.1) ++ [(Lib.cut l [58]).1]).length) c46) (Eq.symm hA76)) (k := ?_)
      refine WL.load (v := .string ⟨(r74).toArray⟩) (he77.ld0 (T := 9)) (k := ?_)
      refine WL.op (d := 9) (.int .i64 1) (k := ?_)
      refine WL.op (d := 10) (.string ⟨(r74).toArray⟩) (k := ?_)
      refine WL.nil ?_
      refine WX.seqN ?_
      refine WC.seq ?_
      refine WC.region ?_
      refine WL.op (d := 41) (.string ⟨(r74).toArray⟩) (k := ?_)
      refine WL.callG (d := 42) (f := 29) (args := #[.string ⟨(r74).toArray⟩]) (lnNumber_c (l := r74) (by show List.length r74 ≤ _; first | omega | (simp; done) | (simp; omega)) w69) (k := fun e_ w80 h_ => ⟨.tuple #[.int .i64 ((numV r74 : Nat) : Int), .bool (decide (numP r74))], h_.1, ?_⟩)
      have k81 := h_.2; clear h_
      replace hb4 := k81.heap hb4 id
      replace ho48 := ho48.adds k81
      replace hb70 := k81.heap hb70 id
      replace he77 := he77.adds k81
      replace K := K.trans (k81.any _)
      have nv79 := numV_le r74
      refine WL.op (d := 40) (.tuple #[.int .i64 ((numV r74 : Nat) : Int), .bool (decide (numP r74))]) (k := ?_)
      refine WL.op (d := 43) (.int .i64 ((numV r74 : Nat) : Int)) (k := ?_)
      refine WL.op (d := 44) (.bool (decide (numP r74))) (k := ?_)
      refine WL.op (d := 11) (.int .i64 ((numV r74 : Nat) : Int)) (k := ?_)
      refine WL.op (d := 12) (.bool (decide (numP r74))) (k := ?_)
      refine WL.nil ?_
      refine WX.seqN ?_
      refine WC.seq ?_
      refine WC.seq ?_
      refine WC.region ?_
      refine WL.op (d := 45) (.bool (decide (numP r74))) (k := ?_)
      refine WL.op (d := 46) (.bool (!(decide (numP r74)))) (k := ?_)
      refine WL.nil ?_
      refine WX.seqN ?_
      refine WC.cond (b := !(decide (numP r74))) (ht := fun h82 => ?_) (hf := fun h82 => ?_)
      · have h83 : (decide (numP r74)) = false := Bool.not_inj (y := false) h82
        have ph83 := of_decide_eq_false h83
        refine WC.seq ?_
        refine WC.region ?_
        refine WL.op (d := 47) (.agg #[.int .i64 0, .int .i64 0, .int .i64 0, .int .i64 0, .int .i64 0]) (k := ?_)
        refine WL.store (v := .agg #[.int .i64 0, .int .i64 0, .int .i64 0, .int .i64 0, .int .i64 0]) (i := 0) (cs' := #[.int .i64 0, .int .i64 0, .int .i64 0, .int .i64 0, .int .i64 0]) hb4 (k := fun w84 hb85 k86 => ?_)
        replace ho48 := ho48.keeps k86 (fun i hi e => (ho48.offT hb4 (by decide)) (e ▸ hi))
        replace hb70 := k86.heap hb70 (Ne.symm n34)
        replace K := K.trans' k86 (fun i hi e => absurd (e ▸ hi) (Nat.not_lt.2 z6))
        clear hb4
        refine WL.op (d := 3) (.bool false) (k := ?_)
        refine WL.nil ?_
        refine WX.seqN ?_
        refine WC.ret ?_
        refine WX.seqR ?_
        refine WX.blockR ?_
        refine WX.seqR ?_
        refine WX.seqR ?_
        refine WX.blockR ?_
        refine WX.seqR ?_
        refine WX.ret (rs := [.cell 2 29, .tmp 3]) [.agg #[.int .i64 0, .int .i64 0, .int .i64 0, .int .i64 0, .int .i64 0], .bool false] (.tuple #[.agg #[.int .i64 0, .int .i64 0, .int .i64 0, .int .i64 0, .int .i64 0], .bool false]) ⟨⟨_, (by kernel_rfl), ldN (T := 29) (i := 0) (m := 5) (l := [.int .i64 0, .int .i64 0, .int .i64 0, .int .i64 0, .int .i64 0]) hb85⟩, (by kernel_rfl), trivial⟩ (k := ?_)
        obtain ⟨e1_, e2_⟩ := task_no (s := l) (task_nonum (i := 1) hr75 ph83)
        exact ⟨by rw [e1_, e2_], K⟩
      · have h87 : (decide (numP r74)) = true := Bool.not_inj (y := true) h82
        have ph87 := of_decide_eq_true h87
        refine WC.skip ?_
        refine WX.seqN ?_
        refine WC.region ?_
        refine WL.op (d := 48) (.int .i64 1) (k := ?_)
        refine WL.op (d := 49) (.int .i64 ((numV r74 : Nat) : Int)) (k := ?_)
        refine WL.op (d := 50) (.pointer (some ⟨b28, 1, none⟩)) (k := ?_)
        refine WL.store (v := .int .i64 ((numV r74 : Nat) : Int)) (i := 1) (cs' := #[.int .i64 ((numV r55 : Nat) : Int), .int .i64 ((numV r74 : Nat) : Int), .int .i64 0, .int .i64 0, .int .i64 0]) hb70 (k := fun w88 hb89 k90 => ?_)
        replace hb4 := k90.heap hb4 n34
        replace ho48 := ho48.keeps k90 (fun i hi e => (n52) (e ▸ hi))
        replace K := K.trans' k90 (fun i hi e => absurd (e ▸ hi) (Nat.not_lt.2 z33))
        clear hb70
        refine WL.nil ?_
        refine WX.blockN ?_
        refine WX.seqN ?_
        refine WC.region ?_
        refine WL.op (d := 51) (.int .i64 2) (k := ?_)
        refine WL.op (d := 35) (.int .i64 2) (k := ?_)
        refine WL.nil ?_
        refine WX.more ?_
        refine WC.seq ?_
        refine WC.region ?_
        refine WL.op (d := 36) (.bool true) (k := ?_)
        refine WL.nil ?_
        refine WX.seqN ?_
        refine WC.seq ?_
        refine WC.condT (k := ?_)
        refine WC.skip ?_
        refine WX.seqN ?_
        refine WC.seq ?_
        refine WC.block ?_
        refine WC.seq ?_
        refine WC.region ?_
        refine WL.op (d := 37) (.int .i64 2) (k := ?_)
        obtain ⟨b91, o92, r93, hr94, hA95, he96⟩ := SlAt.at (ho48.sl ekStr) (i := 2) (by omega) (by omega)
        refine WL.rw (t := 33) (v := .slice (some ⟨b91, o92, none⟩) ((splitL 47 ((Lib.cut l [58]).2.1) ++ [(Lib.cut l [58]).1]).length) c46) (congrArg (fun a => Value.slice a ((splitL 47 ((Lib.cut l [58]).2.1) ++ [(Lib.cut l [58]).1]).length) c46) hA95) (k := ?_)
        have tl97 := taskL_le (s := l) (List.mem_of_getElem? hr94)
        refine WL.idx (T := 43) (E := 9) (m := 1) (b := b91) (o := o92) (len := (splitL 47 ((Lib.cut l [58]).2.1) ++ [(Lib.cut l [58]).1]).length) (cap := c46) (i := 2) (kk := .i64) (d := 38) (by omega) (by omega) (k := ?_)
        refine WL.rw (t := 33) (v := .slice A45 ((splitL 47 ((Lib.cut l [58]).2.1) ++ [(Lib.cut l [58]).1]).length) c46) (congrArg (fun a => Value.slice a ((splitL 47 ((Lib.cut l [58]).2.1) ++ [(Lib.cut l [58]).1]).length) c46) (Eq.symm hA95)) (k := ?_)
        refine WL.load (v := .string ⟨(r93).toArray⟩) (he96.ld0 (T := 9)) (k := ?_)
        refine WL.op (d := 9) (.int .i64 2) (k := ?_)
        refine WL.op (d := 10) (.string ⟨(r93).toArray⟩) (k := ?_)
        refine WL.nil ?_
        refine WX.seqN ?_
        refine WC.seq ?_
        refine WC.region ?_
        refine WL.op (d := 41) (.string ⟨(r93).toArray⟩) (k := ?_)
        refine WL.callG (d := 42) (f := 29) (args := #[.string ⟨(r93).toArray⟩]) (lnNumber_c (l := r93) (by show List.length r93 ≤ _; first | omega | (simp; done) | (simp; omega)) w88) (k := fun e_ w99 h_ => ⟨.tuple #[.int .i64 ((numV r93 : Nat) : Int), .bool (decide (numP r93))], h_.1, ?_⟩)
        have k100 := h_.2; clear h_
        replace hb4 := k100.heap hb4 id
        replace ho48 := ho48.adds k100
        replace hb89 := k100.heap hb89 id
        replace he96 := he96.adds k100
        replace K := K.trans (k100.any _)
        have nv98 := numV_le r93
        refine WL.op (d := 40) (.tuple #[.int .i64 ((numV r93 : Nat) : Int), .bool (decide (numP r93))]) (k := ?_)
        refine WL.op (d := 43) (.int .i64 ((numV r93 : Nat) : Int)) (k := ?_)
        refine WL.op (d := 44) (.bool (decide (numP r93))) (k := ?_)
        refine WL.op (d := 11) (.int .i64 ((numV r93 : Nat) : Int)) (k := ?_)
        refine WL.op (d := 12) (.bool (decide (numP r93))) (k := ?_)
        refine WL.nil ?_
        refine WX.seqN ?_
        refine WC.seq ?_
        refine WC.seq ?_
        refine WC.region ?_
        refine WL.op (d := 45) (.bool (decide (numP r93))) (k := ?_)
        refine WL.op (d := 46) (.bool (!(decide (numP r93)))) (k := ?_)
        refine WL.nil ?_
        refine WX.seqN ?_
        refine WC.cond (b := !(decide (numP r93))) (ht := fun h101 => ?_) (hf := fun h101 => ?_)
        · have h102 : (decide (numP r93)) = false := Bool.not_inj (y := false) h101
          have ph102 := of_decide_eq_false h102
          refine WC.seq ?_
          refine WC.region ?_
          refine WL.op (d := 47) (.agg #[.int .i64 0, .int .i64 0, .int .i64 0, .int .i64 0, .int .i64 0]) (k := ?_)
          refine WL.store (v := .agg #[.int .i64 0, .int .i64 0, .int .i64 0, .int .i64 0, .int .i64 0]) (i := 0) (cs' := #[.int .i64 0, .int .i64 0, .int .i64 0, .int .i64 0, .int .i64 0]) hb4 (k := fun w103 hb104 k105 => ?_)
          replace ho48 := ho48.keeps k105 (fun i hi e => (ho48.offT hb4 (by decide)) (e ▸ hi))
          replace hb89 := k105.heap hb89 (Ne.symm n34)
          replace K := K.trans' k105 (fun i hi e => absurd (e ▸ hi) (Nat.not_lt.2 z6))
          clear hb4
          refine WL.op (d := 3) (.bool false) (k := ?_)
          refine WL.nil ?_
          refine WX.seqN ?_
          refine WC.ret ?_
          refine WX.seqR ?_
          refine WX.blockR ?_
          refine WX.seqR ?_
          refine WX.seqR ?_
          refine WX.blockR ?_
          refine WX.seqR ?_
          refine WX.ret (rs := [.cell 2 29, .tmp 3]) [.agg #[.int .i64 0, .int .i64 0, .int .i64 0, .int .i64 0, .int .i64 0], .bool false] (.tuple #[.agg #[.int .i64 0, .int .i64 0, .int .i64 0, .int .i64 0, .int .i64 0], .bool false]) ⟨⟨_, (by kernel_rfl), ldN (T := 29) (i := 0) (m := 5) (l := [.int .i64 0, .int .i64 0, .int .i64 0, .int .i64 0, .int .i64 0]) hb104⟩, (by kernel_rfl), trivial⟩ (k := ?_)
          obtain ⟨e1_, e2_⟩ := task_no (s := l) (task_nonum (i := 2) hr94 ph102)
          exact ⟨by rw [e1_, e2_], K⟩
        · have h106 : (decide (numP r93)) = true := Bool.not_inj (y := true) h101
          have ph106 := of_decide_eq_true h106
          refine WC.skip ?_
          refine WX.seqN ?_
          refine WC.region ?_
          refine WL.op (d := 48) (.int .i64 2) (k := ?_)
          refine WL.op (d := 49) (.int .i64 ((numV r93 : Nat) : Int)) (k := ?_)
          refine WL.op (d := 50) (.pointer (some ⟨b28, 2, none⟩)) (k := ?_)
          refine WL.store (v := .int .i64 ((numV r93 : Nat) : Int)) (i := 2) (cs' := #[.int .i64 ((numV r55 : Nat) : Int), .int .i64 ((numV r74 : Nat) : Int), .int .i64 ((numV r93 : Nat) : Int), .int .i64 0, .int .i64 0]) hb89 (k := fun w107 hb108 k109 => ?_)
          replace hb4 := k109.heap hb4 n34
          replace ho48 := ho48.keeps k109 (fun i hi e => (n52) (e ▸ hi))
          replace K := K.trans' k109 (fun i hi e => absurd (e ▸ hi) (Nat.not_lt.2 z33))
          clear hb89
          refine WL.nil ?_
          refine WX.blockN ?_
          refine WX.seqN ?_
          refine WC.region ?_
          refine WL.op (d := 51) (.int .i64 3) (k := ?_)
          refine WL.op (d := 35) (.int .i64 3) (k := ?_)
          refine WL.nil ?_
          refine WX.more ?_
          refine WC.seq ?_
          refine WC.region ?_
          refine WL.op (d := 36) (.bool true) (k := ?_)
          refine WL.nil ?_
          refine WX.seqN ?_
          refine WC.seq ?_
          refine WC.condT (k := ?_)
          refine WC.skip ?_
          refine WX.seqN ?_
          refine WC.seq ?_
          refine WC.block ?_
          refine WC.seq ?_
          refine WC.region ?_
          refine WL.op (d := 37) (.int .i64 3) (k := ?_)
          obtain ⟨b110, o111, r112, hr113, hA114, he115⟩ := SlAt.at (ho48.sl ekStr) (i := 3) (by omega) (by omega)
          refine WL.rw (t := 33) (v := .slice (some ⟨b110, o111, none⟩) ((splitL 47 ((Lib.cut l [58]).2.1) ++ [(Lib.cut l [58]).1]).length) c46) (congrArg (fun a => Value.slice a ((splitL 47 ((Lib.cut l [58]).2.1) ++ [(Lib.cut l [58]).1]).length) c46) hA114) (k := ?_)
          have tl116 := taskL_le (s := l) (List.mem_of_getElem? hr113)
          refine WL.idx (T := 43) (E := 9) (m := 1) (b := b110) (o := o111) (len := (splitL 47 ((Lib.cut l [58]).2.1) ++ [(Lib.cut l [58]).1]).length) (cap := c46) (i := 3) (kk := .i64) (d := 38) (by omega) (by omega) (k := ?_)
          refine WL.rw (t := 33) (v := .slice A45 ((splitL 47 ((Lib.cut l [58]).2.1) ++ [(Lib.cut l [58]).1]).length) c46) (congrArg (fun a => Value.slice a ((splitL 47 ((Lib.cut l [58]).2.1) ++ [(Lib.cut l [58]).1]).length) c46) (Eq.symm hA114)) (k := ?_)
          refine WL.load (v := .string ⟨(r112).toArray⟩) (he115.ld0 (T := 9)) (k := ?_)
          refine WL.op (d := 9) (.int .i64 3) (k := ?_)
          refine WL.op (d := 10) (.string ⟨(r112).toArray⟩) (k := ?_)
          refine WL.nil ?_
          refine WX.seqN ?_
          refine WC.seq ?_
          refine WC.region ?_
          refine WL.op (d := 41) (.string ⟨(r112).toArray⟩) (k := ?_)
          refine WL.callG (d := 42) (f := 29) (args := #[.string ⟨(r112).toArray⟩]) (lnNumber_c (l := r112) (by show List.length r112 ≤ _; first | omega | (simp; done) | (simp; omega)) w107) (k := fun e_ w118 h_ => ⟨.tuple #[.int .i64 ((numV r112 : Nat) : Int), .bool (decide (numP r112))], h_.1, ?_⟩)
          have k119 := h_.2; clear h_
          replace hb4 := k119.heap hb4 id
          replace ho48 := ho48.adds k119
          replace hb108 := k119.heap hb108 id
          replace he115 := he115.adds k119
          replace K := K.trans (k119.any _)
          have nv117 := numV_le r112
          refine WL.op (d := 40) (.tuple #[.int .i64 ((numV r112 : Nat) : Int), .bool (decide (numP r112))]) (k := ?_)
          refine WL.op (d := 43) (.int .i64 ((numV r112 : Nat) : Int)) (k := ?_)
          refine WL.op (d := 44) (.bool (decide (numP r112))) (k := ?_)
          refine WL.op (d := 11) (.int .i64 ((numV r112 : Nat) : Int)) (k := ?_)
          refine WL.op (d := 12) (.bool (decide (numP r112))) (k := ?_)
          refine WL.nil ?_
          refine WX.seqN ?_
          refine WC.seq ?_
          refine WC.seq ?_
          refine WC.region ?_
          refine WL.op (d := 45) (.bool (decide (numP r112))) (k := ?_)
          refine WL.op (d := 46) (.bool (!(decide (numP r112)))) (k := ?_)
          refine WL.nil ?_
          refine WX.seqN ?_
          refine WC.cond (b := !(decide (numP r112))) (ht := fun h120 => ?_) (hf := fun h120 => ?_)
          · have h121 : (decide (numP r112)) = false := Bool.not_inj (y := false) h120
            have ph121 := of_decide_eq_false h121
            refine WC.seq ?_
            refine WC.region ?_
            refine WL.op (d := 47) (.agg #[.int .i64 0, .int .i64 0, .int .i64 0, .int .i64 0, .int .i64 0]) (k := ?_)
            refine WL.store (v := .agg #[.int .i64 0, .int .i64 0, .int .i64 0, .int .i64 0, .int .i64 0]) (i := 0) (cs' := #[.int .i64 0, .int .i64 0, .int .i64 0, .int .i64 0, .int .i64 0]) hb4 (k := fun w122 hb123 k124 => ?_)
            replace ho48 := ho48.keeps k124 (fun i hi e => (ho48.offT hb4 (by decide)) (e ▸ hi))
            replace hb108 := k124.heap hb108 (Ne.symm n34)
            replace K := K.trans' k124 (fun i hi e => absurd (e ▸ hi) (Nat.not_lt.2 z6))
            clear hb4
            refine WL.op (d := 3) (.bool false) (k := ?_)
            refine WL.nil ?_
            refine WX.seqN ?_
            refine WC.ret ?_
            refine WX.seqR ?_
            refine WX.blockR ?_
            refine WX.seqR ?_
            refine WX.seqR ?_
            refine WX.blockR ?_
            refine WX.seqR ?_
            refine WX.ret (rs := [.cell 2 29, .tmp 3]) [.agg #[.int .i64 0, .int .i64 0, .int .i64 0, .int .i64 0, .int .i64 0], .bool false] (.tuple #[.agg #[.int .i64 0, .int .i64 0, .int .i64 0, .int .i64 0, .int .i64 0], .bool false]) ⟨⟨_, (by kernel_rfl), ldN (T := 29) (i := 0) (m := 5) (l := [.int .i64 0, .int .i64 0, .int .i64 0, .int .i64 0, .int .i64 0]) hb123⟩, (by kernel_rfl), trivial⟩ (k := ?_)
            obtain ⟨e1_, e2_⟩ := task_no (s := l) (task_nonum (i := 3) hr113 ph121)
            exact ⟨by rw [e1_, e2_], K⟩
          · have h125 : (decide (numP r112)) = true := Bool.not_inj (y := true) h120
            have ph125 := of_decide_eq_true h125
            refine WC.skip ?_
            refine WX.seqN ?_
            refine WC.region ?_
            refine WL.op (d := 48) (.int .i64 3) (k := ?_)
            refine WL.op (d := 49) (.int .i64 ((numV r112 : Nat) : Int)) (k := ?_)
            refine WL.op (d := 50) (.pointer (some ⟨b28, 3, none⟩)) (k := ?_)
            refine WL.store (v := .int .i64 ((numV r112 : Nat) : Int)) (i := 3) (cs' := #[.int .i64 ((numV r55 : Nat) : Int), .int .i64 ((numV r74 : Nat) : Int), .int .i64 ((numV r93 : Nat) : Int), .int .i64 ((numV r112 : Nat) : Int), .int .i64 0]) hb108 (k := fun w126 hb127 k128 => ?_)
            replace hb4 := k128.heap hb4 n34
            replace ho48 := ho48.keeps k128 (fun i hi e => (n52) (e ▸ hi))
            replace K := K.trans' k128 (fun i hi e => absurd (e ▸ hi) (Nat.not_lt.2 z33))
            clear hb108
            refine WL.nil ?_
            refine WX.blockN ?_
            refine WX.seqN ?_
            refine WC.region ?_
            refine WL.op (d := 51) (.int .i64 4) (k := ?_)
            refine WL.op (d := 35) (.int .i64 4) (k := ?_)
            refine WL.nil ?_
            refine WX.more ?_
            refine WC.seq ?_
            refine WC.region ?_
            refine WL.op (d := 36) (.bool true) (k := ?_)
            refine WL.nil ?_
            refine WX.seqN ?_
            refine WC.seq ?_
            refine WC.condT (k := ?_)
            refine WC.skip ?_
            refine WX.seqN ?_
            refine WC.seq ?_
            refine WC.block ?_
            refine WC.seq ?_
            refine WC.region ?_
            refine WL.op (d := 37) (.int .i64 4) (k := ?_)
            obtain ⟨b129, o130, r131, hr132, hA133, he134⟩ := SlAt.at (ho48.sl ekStr) (i := 4) (by omega) (by omega)
            refine WL.rw (t := 33) (v := .slice (some ⟨b129, o130, none⟩) ((splitL 47 ((Lib.cut l [58]).2.1) ++ [(Lib.cut l [58]).1]).length) c46) (congrArg (fun a => Value.slice a ((splitL 47 ((Lib.cut l [58]).2.1) ++ [(Lib.cut l [58]).1]).length) c46) hA133) (k := ?_)
            have tl135 := taskL_le (s := l) (List.mem_of_getElem? hr132)
            refine WL.idx (T := 43) (E := 9) (m := 1) (b := b129) (o := o130) (len := (splitL 47 ((Lib.cut l [58]).2.1) ++ [(Lib.cut l [58]).1]).length) (cap := c46) (i := 4) (kk := .i64) (d := 38) (by omega) (by omega) (k := ?_)
            refine WL.rw (t := 33) (v := .slice A45 ((splitL 47 ((Lib.cut l [58]).2.1) ++ [(Lib.cut l [58]).1]).length) c46) (congrArg (fun a => Value.slice a ((splitL 47 ((Lib.cut l [58]).2.1) ++ [(Lib.cut l [58]).1]).length) c46) (Eq.symm hA133)) (k := ?_)
            refine WL.load (v := .string ⟨(r131).toArray⟩) (he134.ld0 (T := 9)) (k := ?_)
            refine WL.op (d := 9) (.int .i64 4) (k := ?_)
            refine WL.op (d := 10) (.string ⟨(r131).toArray⟩) (k := ?_)
            refine WL.nil ?_
            refine WX.seqN ?_
            refine WC.seq ?_
            refine WC.region ?_
            refine WL.op (d := 41) (.string ⟨(r131).toArray⟩) (k := ?_)
            refine WL.callG (d := 42) (f := 29) (args := #[.string ⟨(r131).toArray⟩]) (lnNumber_c (l := r131) (by show List.length r131 ≤ _; first | omega | (simp; done) | (simp; omega)) w126) (k := fun e_ w137 h_ => ⟨.tuple #[.int .i64 ((numV r131 : Nat) : Int), .bool (decide (numP r131))], h_.1, ?_⟩)
            have k138 := h_.2; clear h_
            replace hb4 := k138.heap hb4 id
            replace ho48 := ho48.adds k138
            replace hb127 := k138.heap hb127 id
            replace he134 := he134.adds k138
            replace K := K.trans (k138.any _)
            have nv136 := numV_le r131
            refine WL.op (d := 40) (.tuple #[.int .i64 ((numV r131 : Nat) : Int), .bool (decide (numP r131))]) (k := ?_)
            refine WL.op (d := 43) (.int .i64 ((numV r131 : Nat) : Int)) (k := ?_)
            refine WL.op (d := 44) (.bool (decide (numP r131))) (k := ?_)
            refine WL.op (d := 11) (.int .i64 ((numV r131 : Nat) : Int)) (k := ?_)
            refine WL.op (d := 12) (.bool (decide (numP r131))) (k := ?_)
            refine WL.nil ?_
            refine WX.seqN ?_
            refine WC.seq ?_
            refine WC.seq ?_
            refine WC.region ?_
            refine WL.op (d := 45) (.bool (decide (numP r131))) (k := ?_)
            refine WL.op (d := 46) (.bool (!(decide (numP r131)))) (k := ?_)
            refine WL.nil ?_
            refine WX.seqN ?_
            refine WC.cond (b := !(decide (numP r131))) (ht := fun h139 => ?_) (hf := fun h139 => ?_)
            · have h140 : (decide (numP r131)) = false := Bool.not_inj (y := false) h139
              have ph140 := of_decide_eq_false h140
              refine WC.seq ?_
              refine WC.region ?_
              refine WL.op (d := 47) (.agg #[.int .i64 0, .int .i64 0, .int .i64 0, .int .i64 0, .int .i64 0]) (k := ?_)
              refine WL.store (v := .agg #[.int .i64 0, .int .i64 0, .int .i64 0, .int .i64 0, .int .i64 0]) (i := 0) (cs' := #[.int .i64 0, .int .i64 0, .int .i64 0, .int .i64 0, .int .i64 0]) hb4 (k := fun w141 hb142 k143 => ?_)
              replace ho48 := ho48.keeps k143 (fun i hi e => (ho48.offT hb4 (by decide)) (e ▸ hi))
              replace hb127 := k143.heap hb127 (Ne.symm n34)
              replace K := K.trans' k143 (fun i hi e => absurd (e ▸ hi) (Nat.not_lt.2 z6))
              clear hb4
              refine WL.op (d := 3) (.bool false) (k := ?_)
              refine WL.nil ?_
              refine WX.seqN ?_
              refine WC.ret ?_
              refine WX.seqR ?_
              refine WX.blockR ?_
              refine WX.seqR ?_
              refine WX.seqR ?_
              refine WX.blockR ?_
              refine WX.seqR ?_
              refine WX.ret (rs := [.cell 2 29, .tmp 3]) [.agg #[.int .i64 0, .int .i64 0, .int .i64 0, .int .i64 0, .int .i64 0], .bool false] (.tuple #[.agg #[.int .i64 0, .int .i64 0, .int .i64 0, .int .i64 0, .int .i64 0], .bool false]) ⟨⟨_, (by kernel_rfl), ldN (T := 29) (i := 0) (m := 5) (l := [.int .i64 0, .int .i64 0, .int .i64 0, .int .i64 0, .int .i64 0]) hb142⟩, (by kernel_rfl), trivial⟩ (k := ?_)
              obtain ⟨e1_, e2_⟩ := task_no (s := l) (task_nonum (i := 4) hr132 ph140)
              exact ⟨by rw [e1_, e2_], K⟩
            · have h144 : (decide (numP r131)) = true := Bool.not_inj (y := true) h139
              have ph144 := of_decide_eq_true h144
              refine WC.skip ?_
              refine WX.seqN ?_
              refine WC.region ?_
              refine WL.op (d := 48) (.int .i64 4) (k := ?_)
              refine WL.op (d := 49) (.int .i64 ((numV r131 : Nat) : Int)) (k := ?_)
              refine WL.op (d := 50) (.pointer (some ⟨b28, 4, none⟩)) (k := ?_)
              refine WL.store (v := .int .i64 ((numV r131 : Nat) : Int)) (i := 4) (cs' := #[.int .i64 ((numV r55 : Nat) : Int), .int .i64 ((numV r74 : Nat) : Int), .int .i64 ((numV r93 : Nat) : Int), .int .i64 ((numV r112 : Nat) : Int), .int .i64 ((numV r131 : Nat) : Int)]) hb127 (k := fun w145 hb146 k147 => ?_)
              replace hb4 := k147.heap hb4 n34
              replace ho48 := ho48.keeps k147 (fun i hi e => (n52) (e ▸ hi))
              replace K := K.trans' k147 (fun i hi e => absurd (e ▸ hi) (Nat.not_lt.2 z33))
              clear hb127
              refine WL.nil ?_
              refine WX.blockN ?_
              refine WX.seqN ?_
              refine WC.region ?_
              refine WL.op (d := 51) (.int .i64 5) (k := ?_)
              refine WL.op (d := 35) (.int .i64 5) (k := ?_)
              refine WL.nil ?_
              refine WX.more ?_
              refine WC.seq ?_
              refine WC.region ?_
              refine WL.op (d := 36) (.bool false) (k := ?_)
              refine WL.nil ?_
              refine WX.seqN ?_
              refine WC.seq ?_
              refine WC.condF (k := ?_)
              refine WC.exit ?_
              refine WX.seqE ?_
              refine WX.seqE ?_
              refine WX.blockE ?_
              refine WX.seqN ?_
              refine WC.seq ?_
              refine WC.region ?_
              refine WL.op (d := 52) (.pointer (some ⟨b28, 4, none⟩)) (k := ?_)
              refine WL.load (v := .int .i64 ((numV r131 : Nat) : Int)) (ld1 (T := 2) (i := 4) hb146) (k := ?_)
              refine WL.op (d := 54) (.pointer (some ⟨b28, 0, none⟩)) (k := ?_)
              refine WL.load (v := .int .i64 ((numV r55 : Nat) : Int)) (ld1 (T := 2) (i := 0) hb146) (k := ?_)
              refine WL.op (d := 56) (.pointer (some ⟨b28, 1, none⟩)) (k := ?_)
              refine WL.load (v := .int .i64 ((numV r74 : Nat) : Int)) (ld1 (T := 2) (i := 1) hb146) (k := ?_)
              refine WL.op (d := 58) (.pointer (some ⟨b28, 2, none⟩)) (k := ?_)
              refine WL.load (v := .int .i64 ((numV r93 : Nat) : Int)) (ld1 (T := 2) (i := 2) hb146) (k := ?_)
              refine WL.op (d := 60) (.pointer (some ⟨b28, 3, none⟩)) (k := ?_)
              refine WL.load (v := .int .i64 ((numV r112 : Nat) : Int)) (ld1 (T := 2) (i := 3) hb146) (k := ?_)
              refine WL.op (d := 62) (.agg #[.int .i64 ((numV r131 : Nat) : Int), .int .i64 ((numV r55 : Nat) : Int), .int .i64 ((numV r74 : Nat) : Int), .int .i64 ((numV r93 : Nat) : Int), .int .i64 ((numV r112 : Nat) : Int)]) (k := ?_)
              refine WL.new (d := 13) (T := 29) #[.int .i64 0, .int .i64 0, .int .i64 0, .int .i64 0, .int .i64 0] (k := fun b148 w149 g150 hb151 k152 => ?_)
              have z153 := Nat.le_trans K.size g150
              have n154 : b1 ≠ b148 := Nat.ne_of_lt (Nat.lt_of_lt_of_le (lt_of_heap hb4) g150)
              have n155 := OwAt.off_new ho48 g150
              have n156 : b28 ≠ b148 := Nat.ne_of_lt (Nat.lt_of_lt_of_le (lt_of_heap hb146) g150)
              replace hb4 := k152.heap hb4 id
              replace ho48 := ho48.adds k152
              replace hb146 := k152.heap hb146 id
              replace K := K.trans (k152.any _)
              refine WL.store (v := .agg #[.int .i64 ((numV r131 : Nat) : Int), .int .i64 ((numV r55 : Nat) : Int), .int .i64 ((numV r74 : Nat) : Int), .int .i64 ((numV r93 : Nat) : Int), .int .i64 ((numV r112 : Nat) : Int)]) (i := 0) (cs' := #[.int .i64 ((numV r131 : Nat) : Int), .int .i64 ((numV r55 : Nat) : Int), .int .i64 ((numV r74 : Nat) : Int), .int .i64 ((numV r93 : Nat) : Int), .int .i64 ((numV r112 : Nat) : Int)]) hb151 (k := fun w157 hb158 k159 => ?_)
              replace hb4 := k159.heap hb4 n154
              replace ho48 := ho48.keeps k159 (fun i hi e => (n155) (e ▸ hi))
              replace hb146 := k159.heap hb146 n156
              replace K := K.trans' k159 (fun i hi e => absurd (e ▸ hi) (Nat.not_lt.2 z153))
              clear hb151
              refine WL.nil ?_
              refine WX.seqN ?_
              refine WC.seq ?_
              refine WC.seq ?_
              refine WC.region ?_
              refine WL.load (v := .agg #[.int .i64 ((numV r131 : Nat) : Int), .int .i64 ((numV r55 : Nat) : Int), .int .i64 ((numV r74 : Nat) : Int), .int .i64 ((numV r93 : Nat) : Int), .int .i64 ((numV r112 : Nat) : Int)]) (ldN (T := 29) (i := 0) (m := 5) (l := [.int .i64 ((numV r131 : Nat) : Int), .int .i64 ((numV r55 : Nat) : Int), .int .i64 ((numV r74 : Nat) : Int), .int .i64 ((numV r93 : Nat) : Int), .int .i64 ((numV r112 : Nat) : Int)]) hb158) (k := ?_)
              refine WL.callG (d := 64) (f := 30) (args := #[.agg #[.int .i64 ((numV r131 : Nat) : Int), .int .i64 ((numV r55 : Nat) : Int), .int .i64 ((numV r74 : Nat) : Int), .int .i64 ((numV r93 : Nat) : Int), .int .i64 ((numV r112 : Nat) : Int)]]) (pCheck_c (⟨((numV r131 : Nat) : Int), ((numV r55 : Nat) : Int), ((numV r74 : Nat) : Int), ((numV r93 : Nat) : Int), ((numV r112 : Nat) : Int)⟩ : GTask) w157) (k := fun e_ w160 h_ => ⟨.bool (decide (GTask.ok (⟨((numV r131 : Nat) : Int), ((numV r55 : Nat) : Int), ((numV r74 : Nat) : Int), ((numV r93 : Nat) : Int), ((numV r112 : Nat) : Int)⟩ : GTask))), h_.1, ?_⟩)
              have k161 := h_.2; clear h_
              replace hb4 := k161.heap hb4 id
              replace ho48 := ho48.adds k161
              replace hb146 := k161.heap hb146 id
              replace hb158 := k161.heap hb158 id
              replace K := K.trans (k161.any _)
              refine WL.op (d := 65) (.bool (!(decide (GTask.ok (⟨((numV r131 : Nat) : Int), ((numV r55 : Nat) : Int), ((numV r74 : Nat) : Int), ((numV r93 : Nat) : Int), ((numV r112 : Nat) : Int)⟩ : GTask))))) (k := ?_)
              refine WL.nil ?_
              refine WX.seqN ?_
              refine WC.cond (b := !(decide (GTask.ok (⟨((numV r131 : Nat) : Int), ((numV r55 : Nat) : Int), ((numV r74 : Nat) : Int), ((numV r93 : Nat) : Int), ((numV r112 : Nat) : Int)⟩ : GTask)))) (ht := fun h162 => ?_) (hf := fun h162 => ?_)
              · have h163 : (decide (GTask.ok (⟨((numV r131 : Nat) : Int), ((numV r55 : Nat) : Int), ((numV r74 : Nat) : Int), ((numV r93 : Nat) : Int), ((numV r112 : Nat) : Int)⟩ : GTask))) = false := Bool.not_inj (y := false) h162
                have ph163 := of_decide_eq_false h163
                refine WC.seq ?_
                refine WC.region ?_
                refine WL.op (d := 66) (.agg #[.int .i64 0, .int .i64 0, .int .i64 0, .int .i64 0, .int .i64 0]) (k := ?_)
                refine WL.store (v := .agg #[.int .i64 0, .int .i64 0, .int .i64 0, .int .i64 0, .int .i64 0]) (i := 0) (cs' := #[.int .i64 0, .int .i64 0, .int .i64 0, .int .i64 0, .int .i64 0]) hb4 (k := fun w164 hb165 k166 => ?_)
                replace ho48 := ho48.keeps k166 (fun i hi e => (ho48.offT hb4 (by decide)) (e ▸ hi))
                replace hb146 := k166.heap hb146 (Ne.symm n34)
                replace hb158 := k166.heap hb158 (Ne.symm n154)
                replace K := K.trans' k166 (fun i hi e => absurd (e ▸ hi) (Nat.not_lt.2 z6))
                clear hb4
                refine WL.op (d := 3) (.bool false) (k := ?_)
                refine WL.nil ?_
                refine WX.seqN ?_
                refine WC.ret ?_
                refine WX.seqR ?_
                refine WX.ret (rs := [.cell 2 29, .tmp 3]) [.agg #[.int .i64 0, .int .i64 0, .int .i64 0, .int .i64 0, .int .i64 0], .bool false] (.tuple #[.agg #[.int .i64 0, .int .i64 0, .int .i64 0, .int .i64 0, .int .i64 0], .bool false]) ⟨⟨_, (by kernel_rfl), ldN (T := 29) (i := 0) (m := 5) (l := [.int .i64 0, .int .i64 0, .int .i64 0, .int .i64 0, .int .i64 0]) hb165⟩, (by kernel_rfl), trivial⟩ (k := ?_)
                have tt_ := task_T (s := l) hr56 hr75 hr94 hr113 hr132
                obtain ⟨e1_, e2_⟩ := task_no (s := l) (fun k_ => ph163 (tt_ ▸ k_.2.2.2))
                exact ⟨by rw [e1_, e2_], K⟩
              · have h167 : (decide (GTask.ok (⟨((numV r131 : Nat) : Int), ((numV r55 : Nat) : Int), ((numV r74 : Nat) : Int), ((numV r93 : Nat) : Int), ((numV r112 : Nat) : Int)⟩ : GTask))) = true := Bool.not_inj (y := true) h162
                have ph167 := of_decide_eq_true h167
                refine WC.skip ?_
                refine WX.seqN ?_
                refine WC.seq ?_
                refine WC.region ?_
                refine WL.load (v := .agg #[.int .i64 ((numV r131 : Nat) : Int), .int .i64 ((numV r55 : Nat) : Int), .int .i64 ((numV r74 : Nat) : Int), .int .i64 ((numV r93 : Nat) : Int), .int .i64 ((numV r112 : Nat) : Int)]) (ldN (T := 29) (i := 0) (m := 5) (l := [.int .i64 ((numV r131 : Nat) : Int), .int .i64 ((numV r55 : Nat) : Int), .int .i64 ((numV r74 : Nat) : Int), .int .i64 ((numV r93 : Nat) : Int), .int .i64 ((numV r112 : Nat) : Int)]) hb158) (k := ?_)
                refine WL.store (v := .agg #[.int .i64 ((numV r131 : Nat) : Int), .int .i64 ((numV r55 : Nat) : Int), .int .i64 ((numV r74 : Nat) : Int), .int .i64 ((numV r93 : Nat) : Int), .int .i64 ((numV r112 : Nat) : Int)]) (i := 0) (cs' := #[.int .i64 ((numV r131 : Nat) : Int), .int .i64 ((numV r55 : Nat) : Int), .int .i64 ((numV r74 : Nat) : Int), .int .i64 ((numV r93 : Nat) : Int), .int .i64 ((numV r112 : Nat) : Int)]) hb4 (k := fun w168 hb169 k170 => ?_)
                replace ho48 := ho48.keeps k170 (fun i hi e => (ho48.offT hb4 (by decide)) (e ▸ hi))
                replace hb146 := k170.heap hb146 (Ne.symm n34)
                replace hb158 := k170.heap hb158 (Ne.symm n154)
                replace K := K.trans' k170 (fun i hi e => absurd (e ▸ hi) (Nat.not_lt.2 z6))
                clear hb4
                refine WL.op (d := 3) (.bool true) (k := ?_)
                refine WL.nil ?_
                refine WX.seqN ?_
                refine WC.ret ?_
                refine WX.ret (rs := [.cell 2 29, .tmp 3]) [.agg #[.int .i64 ((numV r131 : Nat) : Int), .int .i64 ((numV r55 : Nat) : Int), .int .i64 ((numV r74 : Nat) : Int), .int .i64 ((numV r93 : Nat) : Int), .int .i64 ((numV r112 : Nat) : Int)], .bool true] (.tuple #[.agg #[.int .i64 ((numV r131 : Nat) : Int), .int .i64 ((numV r55 : Nat) : Int), .int .i64 ((numV r74 : Nat) : Int), .int .i64 ((numV r93 : Nat) : Int), .int .i64 ((numV r112 : Nat) : Int)], .bool true]) ⟨⟨_, (by kernel_rfl), ldN (T := 29) (i := 0) (m := 5) (l := [.int .i64 ((numV r131 : Nat) : Int), .int .i64 ((numV r55 : Nat) : Int), .int .i64 ((numV r74 : Nat) : Int), .int .i64 ((numV r93 : Nat) : Int), .int .i64 ((numV r112 : Nat) : Int)]) hb169⟩, (by kernel_rfl), trivial⟩ (k := ?_)
                have ta_ := task_all (s := l) l5_ hr56 hr75 hr94 hr113 hr132 ph68 ph87 ph106 ph125 ph144
                have tt_ := task_T (s := l) hr56 hr75 hr94 hr113 hr132
                obtain ⟨e1_, e2_⟩ := task_yes (s := l) h23 l5_ ta_ tt_ ph167
                exact ⟨by rw [e1_, e2_], K⟩
end Go.Proofs.YtoeinhlmkpgjhaaGreatDoor
namespace Go.Proofs.YtoeinhlmkpgjhaaGreatDoor
open Go.RowKit
set_option linter.unusedVariables false
set_option linter.unusedSimpArgs false
theorem cutA_blk {A : Option Addr} {c a m : Nat} {p : Addr} (h : cutA A c a m = some p) : ∃ q, A = some q ∧ q.block = p.block := by
  unfold cutA at h
  split at h
  · exact ⟨p, h, rfl⟩
  · cases A with
    | none => cases h
    | some q =>
      simp only [Option.map_some, Option.some.injEq] at h
      refine ⟨q, rfl, ?_⟩
      rw [← h]; unfold Addr.add; split <;> rfl
abbrev Words := List (List UInt8)
def RdW (b : Nat) (xs : Words) (w : World) : Prop := ∃ A cap, w.heap[b]? = some (.cells #[.slice A xs.length cap] 49 (0, 0)) ∧ SlAt strC 1 9 A xs w ∧ (xs ≠ [] → ∀ p, A = some p → p.block < b) ∧ xs.length ≤ cap ∧ cap ≤ 9223372036854775807 ∧ xs.length ≤ 1000000 ∧ ∀ x ∈ xs, x.length ≤ 1000000
section
variable {b : Nat} {xs : Words} {w w' : World} {S : Nat → Prop}
theorem RdW.lt (h : RdW b xs w) : b < w.heap.size := by
  obtain ⟨A, cap, hb, _⟩ := h; exact lt_of_heap hb
theorem RdW.keeps (h : RdW b xs w) (k : Keeps S w w') (hn : ∀ i, S i → b < i) : RdW b xs w' := by
  obtain ⟨A, cap, hb, hs, hl, hc⟩ := h
  exact ⟨A, cap, k.heap hb (fun e => Nat.lt_irrefl _ (hn _ e)), hs.keeps k (fun hx p hp e => Nat.lt_asymm (hl hx p hp) (hn _ e)), hl, hc⟩
theorem RdW.adds (h : RdW b xs w) (k : Adds w w') : RdW b xs w' := h.keeps k (fun _ e => e.elim)
theorem RdW.len (h : RdW b xs w) : xs.length ≤ 1000000 := by
  obtain ⟨A, cap, hb, hs, hl, hc, hm, hx, _⟩ := h; exact hx
theorem RdW.words (h : RdW b xs w) : ∀ x ∈ xs, x.length ≤ 1000000 := by
  obtain ⟨A, cap, hb, hs, hl, hc, hm, _, hw⟩ := h; exact hw
theorem RdW.offO {α : Type} {cl : α → List Value} {m : Nat} {E : TypeId} {A : Option Addr} {cap : Nat} {ys : List α} (h : RdW b xs w) (o : OwAt cl m E A cap ys w) (hE : 49 ≠ E) : ¬ blk A = some b := by
  obtain ⟨A', cap', hb, _⟩ := h; exact o.offT hb hE
end
abbrev CHw : List PanicEntry := [{ v := .iface 104 (.agg #[]), recovered := false }]
abbrev RdR (b : Nat) (w : World) (r : Option (Value × Words)) (e : Ending) (w' : World) : Prop := Keeps (fun i => i = b) w w' ∧ match r with
  | some p => e = .returned p.1 ∧ RdW b p.2 w'
  | none => e = .panicked CHw
theorem RdR.yes {b : Nat} {w w' : World} {v : Value} {t : Words} {e : Ending} (k : Keeps (fun i => i = b) w w') (he : e = .returned v) (h : RdW b t w') : RdR b w (some (v, t)) e w' := ⟨k, he, h⟩
theorem RdR.no {b : Nat} {w w' : World} {e : Ending} (k : Keeps (fun i => i = b) w w') (he : e = .panicked CHw) : RdR b w none e w' := ⟨k, he⟩
theorem RdR.y {f : FuncId} {args : Array Value} {b : Nat} {w : World} {r : Option (Value × Words)} {v : Value} {t : Words} (h : Calls Tryz.prog f args w (RdR b w r)) (hr : r = some (v, t)) : Calls Tryz.prog f args w fun e w' => e = .returned v ∧ RdW b t w' ∧ Keeps (fun i => i = b) w w' :=
  h.mono fun e w' hh => by subst hr; exact ⟨hh.2.1, hh.2.2, hh.1⟩
theorem RdR.n {f : FuncId} {args : Array Value} {b : Nat} {w : World} {r : Option (Value × Words)} (h : Calls Tryz.prog f args w (RdR b w r)) (hr : r = none) : Calls Tryz.prog f args w fun e w' => e = .panicked CHw ∧ Keeps (fun i => i = b) w w' :=
  h.mono fun e w' hh => by subst hr; exact ⟨hh.2, hh.1⟩
theorem isSome_ex {α : Type} {o : Option α} (h : o.isSome = true) : ∃ x, o = some x := Option.isSome_iff_exists.1 h
theorem isSome_no {α : Type} {o : Option α} (h : o.isSome = false) : o = none := by
  cases o with
  | none => rfl
  | some x => cases h
def nextF : Words → Option (List UInt8 × Words)
  | [] => none
  | x :: t => some (x, t)
def numF (xs : Words) : Option (Nat × Words) := (nextF xs).bind fun p => if numP p.1 then some (numV p.1, p.2) else none
def tskF (xs : Words) : Option (GTask × Words) := (nextF xs).bind fun p => if taskP p.1 then some (taskV p.1, p.2) else none
def wrkF (k : Int) (xs : Words) : Option (PCmd × Words) := (numF xs).bind fun p => (numF p.2).bind fun q => some (⟨k, GOp.zero, (p.1 : Nat), (q.1 : Nat), 0, []⟩, q.2)
def chgF (x : List UInt8) (xs : Words) : Option (GOp × Words) :=
  if x = kAdmit ∨ x = kServe then (tskF xs).bind fun p => some (⟨1, p.1, decide (x = kServe), 0, 0, 0⟩, p.2)
  else if x = kRemove then (numF xs).bind fun p => some (⟨2, ⟨0, 0, 0, 0, 0⟩, false, (p.1 : Nat), 0, 0⟩, p.2)
  else if x = kResize then (numF xs).bind fun p => (numF p.2).bind fun q => some (⟨3, ⟨0, 0, 0, 0, 0⟩, false, (p.1 : Nat), (q.1 : Nat), 0⟩, q.2)
  else if x = kMode then (numF xs).bind fun p => some (⟨4, ⟨0, 0, 0, 0, 0⟩, false, 0, 0, (p.1 : Nat)⟩, p.2)
  else none
theorem numF_le {xs t : Words} {n : Nat} (h : numF xs = some (n, t)) : n ≤ 2147483648 := by
  unfold numF at h
  cases hx : nextF xs with
  | none => rw [hx] at h; cases h
  | some p =>
    rw [hx] at h
    simp only [Option.bind_some] at h
    split at h
    · cases h; exact numV_le _
    · cases h
theorem nextF_cons {xs t : Words} {x : List UInt8} (h : nextF xs = some (x, t)) : xs = x :: t := by
  cases xs with
  | nil => cases h
  | cons y ys => cases h; rfl
theorem numF_cons {xs t : Words} {n : Nat} (h : numF xs = some (n, t)) : ∃ x, xs = x :: t := by
  cases xs with
  | nil => cases h
  | cons y ys =>
    unfold numF nextF at h
    simp only [Option.bind_some] at h
    split at h
    · cases h; exact ⟨_, rfl⟩
    · cases h
theorem nextF_le {b : Nat} {xs t : Words} {x : List UInt8} {w : World} (hr : RdW b xs w) (h : nextF xs = some (x, t)) : x.length ≤ 1000000 := by
  have e := nextF_cons h
  exact hr.words x (e ▸ List.mem_cons_self ..)
theorem nextF_len {xs t : Words} {x : List UInt8} (h : nextF xs = some (x, t)) : xs.length = t.length + 1 := by rw [nextF_cons h]; rfl
theorem numF_len {xs t : Words} {n : Nat} (h : numF xs = some (n, t)) : xs.length = t.length + 1 := by
  obtain ⟨x, rfl⟩ := numF_cons h; rfl
theorem wrkF_ex {k : Int} {xs t : Words} {v : PCmd} (h : wrkF k xs = some (v, t)) : ∃ i j : Int, v = ⟨k, GOp.zero, i, j, 0, []⟩ := by
  unfold wrkF at h
  cases h1 : numF xs with
  | none => rw [h1] at h; cases h
  | some p =>
    rw [h1] at h
    simp only [Option.bind_some] at h
    cases h2 : numF p.2 with
    | none => rw [h2] at h; cases h
    | some q => rw [h2] at h; cases h; exact ⟨_, _, rfl⟩
def fatS (x : List UInt8) (t : Words) : Option (GFate × Words) :=
  if x = kLost then some (⟨0, 0⟩, t) else if x = kKept then some (⟨1, 0⟩, t) else if x = kTorn then (numF t).map fun p => (⟨2, (p.1 : Nat)⟩, p.2) else none
theorem fatS_len {x : List UInt8} {t u : Words} {f : GFate} (h : fatS x t = some (f, u)) : u.length ≤ t.length := by
  unfold fatS at h
  split at h
  · cases h; exact Nat.le_refl _
  · split at h
    · cases h; exact Nat.le_refl _
    · split at h
      · cases hn : numF t with
        | none => rw [hn] at h; cases h
        | some p =>
          rw [hn] at h
          obtain ⟨n, v⟩ := p
          cases h
          have := numF_len hn; simp only; omega
      · cases h
def fatN : Nat → Words → Option (List GFate)
  | _, [] => some []
  | 0, _ :: _ => none
  | n + 1, x :: t => (fatS x t).bind fun p => (fatN n p.2).map (p.1 :: ·)
def fatF (xs : Words) : Option (List GFate) := fatN xs.length xs
theorem fatN_up : ∀ (n : Nat) (xs : Words), xs.length ≤ n → fatN n xs = fatN xs.length xs
  | n, [], _ => by cases n <;> rfl
  | 0, _ :: _, h => by simp at h
  | n + 1, x :: t, h => by
    simp only [List.length_cons] at h
    rw [List.length_cons, fatN, fatN]
    cases hs : fatS x t with
    | none => rfl
    | some p =>
      obtain ⟨f, u⟩ := p
      have hl := fatS_len hs
      simp only [Option.bind_some]
      rw [fatN_up n u (by omega), fatN_up t.length u (by omega)]
theorem fatF_cons (x : List UInt8) (t : Words) : fatF (x :: t) = (fatS x t).bind fun p => (fatF p.2).map (p.1 :: ·) := by
  unfold fatF
  rw [List.length_cons, fatN]
  cases hs : fatS x t with
  | none => rfl
  | some p =>
    obtain ⟨f, u⟩ := p
    simp only [Option.bind_some]
    rw [fatN_up t.length u (fatS_len hs)]
def fatI (xs t : Words) (out : List GFate) : Prop := fatF xs = (fatF t).map (out ++ ·)
theorem fatI_zero (xs : Words) : fatI xs xs [] := by unfold fatI; simp
theorem fatI_succ {xs t u v : Words} {out : List GFate} {x : List UInt8} {f : GFate} (h : fatI xs t out) (hq : nextF t = some (x, u)) (hf : fatS x u = some (f, v)) : fatI xs v (out ++ [f]) := by
  unfold fatI at h ⊢
  rw [h, nextF_cons hq, fatF_cons, hf]
  simp only [Option.bind_some, Option.map_map]
  congr 1
  funext l
  simp
theorem fatI_end {xs : Words} {out : List GFate} (h : fatI xs [] out) : fatF xs = some out := by
  unfold fatI at h
  rw [h]; simp [fatF, fatN]
theorem fatI_no {xs t u : Words} {out : List GFate} {x : List UInt8} (h : fatI xs t out) (hq : nextF t = some (x, u)) (hf : fatS x u = none) : fatF xs = none := by
  unfold fatI at h
  rw [h, nextF_cons hq, fatF_cons, hf]; rfl
theorem fatF_len {xs : Words} {l : List GFate} (h : fatF xs = some l) : l.length ≤ xs.length := by
  have key : ∀ (n : Nat) (xs : Words) (l : List GFate), fatN n xs = some l → l.length ≤ xs.length := by
    intro n
    induction n with
    | zero =>
      intro xs l h
      cases xs with
      | nil => cases h; simp
      | cons x t => cases h
    | succ n ih =>
      intro xs l h
      cases xs with
      | nil => cases h; simp
      | cons x t =>
        rw [fatN] at h
        cases hs : fatS x t with
        | none => rw [hs] at h; cases h
        | some p =>
          obtain ⟨f, u⟩ := p
          rw [hs, Option.bind_some] at h
          have hl := fatS_len hs
          simp only at h
          cases hf : fatN n u with
          | none => rw [hf] at h; cases h
          | some l2 =>
            rw [hf] at h
            cases h
            have := ih u l2 hf
            simp only [List.length_cons]; omega
  exact key _ _ _ h
abbrev FatR (b : Nat) (w : World) (r : Option (List GFate)) (e : Ending) (w' : World) : Prop := Keeps (fun i => i = b) w w' ∧ match r with
  | some fs => ∃ A c, e = .returned (.slice A fs.length c) ∧ OwAt fateC 2 72 A c fs w' ∧ (∀ i, blk A = some i → w.heap.size ≤ i) ∧ RdW b [] w'
  | none => e = .panicked CHw
theorem FatR.y {f : FuncId} {args : Array Value} {b : Nat} {w : World} {r : Option (List GFate)} {fs : List GFate} (h : Calls Tryz.prog f args w (FatR b w r)) (hr : r = some fs) : Calls Tryz.prog f args w fun e w' => ∃ A c, e = .returned (.slice A fs.length c) ∧ OwAt fateC 2 72 A c fs w' ∧ (∀ i, blk A = some i → w.heap.size ≤ i) ∧ RdW b [] w' ∧ Keeps (fun i => i = b) w w' :=
  h.mono fun e w' hh => by subst hr; obtain ⟨k, A, c, h1, h2, h3, h4⟩ := hh; exact ⟨A, c, h1, h2, h3, h4, k⟩
theorem FatR.n {f : FuncId} {args : Array Value} {b : Nat} {w : World} {r : Option (List GFate)} (h : Calls Tryz.prog f args w (FatR b w r)) (hr : r = none) : Calls Tryz.prog f args w fun e w' => e = .panicked CHw ∧ Keeps (fun i => i = b) w w' :=
  h.mono fun e w' hh => by subst hr; exact ⟨hh.2, hh.1⟩
abbrev CmdR (b : Nat) (w : World) (r : Option PCmd) (e : Ending) (w' : World) : Prop := Keeps (fun i => i = b) w w' ∧ match r with
  | some p => ∃ A c, e = .returned (GCmd.val ⟨p, A, c⟩) ∧ OwAt fateC 2 72 A c p.fs w' ∧ (∀ i, blk A = some i → w.heap.size ≤ i)
  | none => e = .panicked CHw
theorem CmdR.y {f : FuncId} {args : Array Value} {b : Nat} {w : World} {r : Option PCmd} {p : PCmd} (h : Calls Tryz.prog f args w (CmdR b w r)) (hr : r = some p) : Calls Tryz.prog f args w fun e w' => ∃ A c, e = .returned (GCmd.val ⟨p, A, c⟩) ∧ OwAt fateC 2 72 A c p.fs w' ∧ (∀ i, blk A = some i → w.heap.size ≤ i) ∧ Keeps (fun i => i = b) w w' :=
  h.mono fun e w' hh => by subst hr; obtain ⟨k, A, c, h1, h2, h3⟩ := hh; exact ⟨A, c, h1, h2, h3, k⟩
theorem CmdR.n {f : FuncId} {args : Array Value} {b : Nat} {w : World} {r : Option PCmd} (h : Calls Tryz.prog f args w (CmdR b w r)) (hr : r = none) : Calls Tryz.prog f args w fun e w' => e = .panicked CHw ∧ Keeps (fun i => i = b) w w' :=
  h.mono fun e w' hh => by subst hr; exact ⟨hh.2, hh.1⟩
noncomputable def bodF (x : List UInt8) (t : Words) : Option (PCmd × Words) :=
  if x = kRelease then wrkF 2 t
  else if x = kAsk then wrkF 3 t
  else if x = kTick then (numF t).map fun p => (⟨4, GOp.zero, 0, 0, (p.1 : Nat), []⟩, p.2)
  else if x = kFail then (numF t).map fun p => (⟨7, GOp.zero, 0, 0, (p.1 : Nat), []⟩, p.2)
  else if x = kQuery then (numF t).map fun p => (⟨5, GOp.zero, (p.1 : Nat), 0, 0, []⟩, p.2)
  else if x = kSnapshot then some (⟨6, GOp.zero, 0, 0, 0, []⟩, t)
  else if x = kStart then some (⟨9, GOp.zero, 0, 0, 0, []⟩, t)
  else if x = kCrash then (fatF t).map fun l => (⟨8, GOp.zero, 0, 0, 0, l⟩, [])
  else (chgF x t).map fun p => (⟨1, p.1, 0, 0, 0, []⟩, p.2)
noncomputable def cmdF (xs : Words) : Option PCmd := (nextF xs).bind fun p => (bodF p.1 p.2).bind fun q => if q.2 = [] ∧ cokB q.1 = true then some q.1 else none
theorem cmdF_y {xs t u : Words} {x : List UInt8} {p : PCmd} (h : nextF xs = some (x, t)) (hb : bodF x t = some (p, u)) (hu : u = []) (hk : cokB p = true) : cmdF xs = some p := by
  unfold cmdF
  rw [h, Option.bind_some, hb, Option.bind_some, if_pos ⟨hu, hk⟩]
theorem cmdF_n {xs t u : Words} {x : List UInt8} {p : PCmd} (h : nextF xs = some (x, t)) (hb : bodF x t = some (p, u)) (hu : ¬ (u = [] ∧ cokB p = true)) : cmdF xs = none := by
  unfold cmdF
  rw [h, Option.bind_some, hb, Option.bind_some, if_neg hu]
theorem cmdF_b {xs t : Words} {x : List UInt8} (h : nextF xs = some (x, t)) (hb : bodF x t = none) : cmdF xs = none := by
  unfold cmdF
  rw [h, Option.bind_some, hb]; rfl
theorem cmdF_0 {xs : Words} (h : nextF xs = none) : cmdF xs = none := by
  unfold cmdF
  rw [h]; rfl
end Go.Proofs.YtoeinhlmkpgjhaaGreatDoor
namespace Go.Proofs.YtoeinhlmkpgjhaaGreatDoor
open Go.RowKit
set_option linter.unusedVariables false
set_option linter.unusedSimpArgs false
set_option maxRecDepth 100000 in
set_option maxHeartbeats 4000000 in
theorem lnMust_c (c : Bool) (w : World) : Calls Tryz.prog 49 #[.bool c] w fun e w' => (if c = true then e = .returned (.tuple #[]) else e = .panicked CHw) ∧ Adds w w' := by
  have K : Keeps (fun _ => False) w w := Keeps.refl _ w
  refine Calls.start Tryz.func49 rfl (by kernel_rfl) ?_
  refine WC.seq ?_
  refine WC.region ?_
  refine WL.op (d := 2) (.bool c) (k := ?_)
  refine WL.op (d := 3) (.bool (!(c))) (k := ?_)
  refine WL.nil ?_
  refine WX.seqN ?_
  refine WC.cond (b := !(c)) (ht := fun h1 => ?_) (hf := fun h1 => ?_)
  · have h2 : (c) = false := Bool.not_inj (y := false) h1
    refine WC.region ?_
    refine WL.op (d := 4) (.agg #[]) (k := ?_)
    refine WL.op (d := 5) (.iface 104 (.agg #[])) (k := ?_)
    refine WL.panicV (.iface 104 (.agg #[])) (by kernel_rfl) (by kernel_rfl) (by kernel_rfl) ?_
    refine WX.pan ?_
    refine ⟨?_, K⟩
    have c_ : c = false := by simpa using h1
    rw [c_]; rfl
  · have h3 : (c) = true := Bool.not_inj (y := true) h1
    refine WC.skip ?_
    refine WX.end (rs := []) [] (.tuple #[]) trivial (k := ?_)
    refine ⟨?_, K⟩
    have c_ : c = true := by simpa using h1
    rw [c_]; rfl
theorem lnMust_y {c : Bool} (h : c = true) (w : World) : Calls Tryz.prog 49 #[.bool c] w fun e w' => e = .returned (.tuple #[]) ∧ Adds w w' := (lnMust_c c w).mono fun e w' hh => ⟨by have := hh.1; rw [if_pos h] at this; exact this, hh.2⟩
theorem lnMust_n {c : Bool} (h : c = false) (w : World) : Calls Tryz.prog 49 #[.bool c] w fun e w' => e = .panicked CHw ∧ Adds w w' := (lnMust_c c w).mono fun e w' hh => ⟨by have := hh.1; rw [if_neg (by rw [h]; decide)] at this; exact this, hh.2⟩
set_option maxRecDepth 100000 in
set_option maxHeartbeats 4000000 in
theorem lnNext_c {b : Nat} {xs : Words} {w : World} (hr : RdW b xs w) : Calls Tryz.prog 44 #[.pointer (some ⟨b, 0, none⟩)] w (RdR b w ((nextF xs).map fun p => (.string ⟨p.1.toArray⟩, p.2))) := by
  have K : Keeps (fun i => i = b) w w := Keeps.refl _ w
  have lt0_ := hr.lt
  refine Calls.start Tryz.func44 rfl (by kernel_rfl) ?_
  refine WC.seq ?_
  refine WC.region ?_
  refine WL.op (d := 2) (.string ⟨#[]⟩) (k := ?_)
  refine WL.nil ?_
  refine WX.seqN ?_
  refine WC.seq ?_
  obtain ⟨A1, c2, hb3, hs4, hl5, hc6, hm7, hz8, hx9⟩ := id hr
  refine WC.region ?_
  refine WL.op (d := 4) (.pointer (some ⟨b, 0, none⟩)) (k := ?_)
  refine WL.op (d := 5) (.pointer (some ⟨b, 0, none⟩)) (k := ?_)
  refine WL.op (d := 6) (.pointer (some ⟨b, 0, none⟩)) (k := ?_)
  refine WL.load (v := .slice A1 xs.length c2) (ld1 (T := 43) (i := 0) hb3) (k := ?_)
  refine WL.op (d := 8) (.int .i64 (xs.length : Int)) (k := ?_)
  refine WL.op (d := 9) (.bool (decide ((xs.length : Int) > 0))) (k := ?_)
  refine bsplit (decide ((xs.length : Int) > 0)) (fun h10 => ?_) (fun h10 => ?_)
  · have ph10 := of_decide_eq_true h10
    refine WL.callG (d := 10) (f := 49) (args := #[.bool (decide ((xs.length : Int) > 0))]) (lnMust_y h10 w) (k := fun e_ w11 h_ => ⟨.tuple #[], h_.1, ?_⟩)
    have k12 := h_.2; clear h_
    replace hb3 := k12.heap hb3 id
    replace hs4 := hs4.adds k12
    replace K := K.trans (k12.any _)
    refine WL.nil ?_
    refine WX.seqN ?_
    refine WC.seq ?_
    refine WC.region ?_
    refine WL.op (d := 11) (.pointer (some ⟨b, 0, none⟩)) (k := ?_)
    refine WL.op (d := 12) (.pointer (some ⟨b, 0, none⟩)) (k := ?_)
    refine WL.op (d := 13) (.pointer (some ⟨b, 0, none⟩)) (k := ?_)
    refine WL.load (v := .slice A1 xs.length c2) (ld1 (T := 43) (i := 0) hb3) (k := ?_)
    obtain ⟨b13, o14, r15, hr16, hA17, he18⟩ := SlAt.at hs4 (i := 0) (by omega) (by omega)
    refine WL.rw (t := 14) (v := .slice (some ⟨b13, o14, none⟩) xs.length c2) (congrArg (fun a => Value.slice a xs.length c2) hA17) (k := ?_)
    refine WL.idx (T := 43) (E := 9) (m := 1) (b := b13) (o := o14) (len := xs.length) (cap := c2) (i := 0) (kk := .i64) (d := 15) (by omega) (by omega) (k := ?_)
    refine WL.rw (t := 14) (v := .slice A1 xs.length c2) (congrArg (fun a => Value.slice a xs.length c2) (Eq.symm hA17)) (k := ?_)
    refine WL.load (v := .string ⟨(r15).toArray⟩) (he18.ld0 (T := 9)) (k := ?_)
    refine WL.op (d := 3) (.string ⟨(r15).toArray⟩) (k := ?_)
    refine WL.nil ?_
    refine WX.seqN ?_
    refine WC.seq ?_
    refine WC.region ?_
    refine WL.op (d := 17) (.pointer (some ⟨b, 0, none⟩)) (k := ?_)
    refine WL.op (d := 18) (.pointer (some ⟨b, 0, none⟩)) (k := ?_)
    refine WL.op (d := 19) (.pointer (some ⟨b, 0, none⟩)) (k := ?_)
    refine WL.op (d := 20) (.pointer (some ⟨b, 0, none⟩)) (k := ?_)
    refine WL.load (v := .slice A1 xs.length c2) (ld1 (T := 43) (i := 0) hb3) (k := ?_)
    have hs19 := SlAt.cutD (a := 1) (c := c2) hs4 (by omega) (by omega)
    refine WL.cut (d := 22) (vx := .slice A1 xs.length c2) (lo' := (some (.int .i64 1))) (hi' := none) (mx' := none) (v := .slice (cutA A1 c2 1 1) ((List.drop 1 xs).length) (c2 - 1)) (run_cutSl (a := 1) (b := xs.length) (c := c2) (m := 1) (E := 9) (by kernel_rfl) (by kernel_rfl) (.inl ⟨rfl, rfl⟩) (.inl ⟨rfl, rfl, rfl⟩) (.inr ⟨_, _, rfl, by omega⟩) (by omega) (by omega) rfl (by simp <;> omega) (by omega)) (k := ?_)
    refine WL.op (d := 23) (.pointer (some ⟨b, 0, none⟩)) (k := ?_)
    refine WL.op (d := 24) (.pointer (some ⟨b, 0, none⟩)) (k := ?_)
    refine WL.store (v := .slice (cutA A1 c2 1 1) ((List.drop 1 xs).length) (c2 - 1)) (i := 0) (cs' := #[.slice (cutA A1 c2 1 1) ((List.drop 1 xs).length) (c2 - 1)]) hb3 (k := fun w20 hb21 k22 => ?_)
    replace hs19 := hs19.keeps k22 (fun hx p hp e => by obtain ⟨p0, hp0, hpb⟩ := cutA_blk hp; have := hl5 (fun k => hx (by rw [k]; rfl)) p0 hp0; omega)
    replace K := K.trans' k22 (fun i hi e => e)
    clear hb3
    refine WL.nil ?_
    refine WX.seqN ?_
    refine WC.seq ?_
    refine WC.region ?_
    refine WL.op (d := 25) (.string ⟨(r15).toArray⟩) (k := ?_)
    refine WL.op (d := 2) (.string ⟨(r15).toArray⟩) (k := ?_)
    refine WL.nil ?_
    refine WX.seqN ?_
    refine WC.ret ?_
    refine WX.ret (rs := [.tmp 2]) [.string ⟨(r15).toArray⟩] (.string ⟨(r15).toArray⟩) ⟨(by kernel_rfl), trivial⟩ (k := ?_)
    have e_ : xs = r15 :: List.drop 1 xs := by
      cases xs with
      | nil => simp at hr16
      | cons y ys => simp at hr16; rw [hr16]; rfl
    have ne_ : xs ≠ [] := fun k => by rw [k] at e_; cases e_
    have f_ : nextF xs = some (r15, List.drop 1 xs) := (congrArg nextF e_).trans rfl
    rw [f_]
    exact RdR.yes K rfl ⟨_, _, hb21, hs19, fun _ p hp => by obtain ⟨p0, hp0, hpb⟩ := cutA_blk hp; rw [← hpb]; exact hl5 ne_ p0 hp0, by simp; omega, by omega, by simp; omega, fun y hy => hx9 y (List.mem_of_mem_drop hy)⟩
  · have ph10 := of_decide_eq_false h10
    refine WL.callGP (f := 49) (args := #[.bool (decide ((xs.length : Int) > 0))]) (lnMust_n h10 w) (by kernel_rfl) (by kernel_rfl) (by kernel_rfl) (fun e_ w23 h_ => ?_)
    obtain ⟨rfl, k24⟩ := h_
    refine ⟨_, rfl, ?_⟩
    replace hb3 := k24.heap hb3 id
    replace hs4 := hs4.adds k24
    replace K := K.trans (k24.any _)
    refine WX.seqP ?_
    refine WX.pan ?_
    have e_ : xs = [] := List.eq_nil_of_length_eq_zero (by omega)
    subst e_
    exact RdR.no K rfl
set_option maxRecDepth 100000 in
set_option maxHeartbeats 4000000 in
theorem lnRnum_c {b : Nat} {xs : Words} {w : World} (hr : RdW b xs w) : Calls Tryz.prog 66 #[.pointer (some ⟨b, 0, none⟩)] w (RdR b w ((numF xs).map fun p => (.int .i64 (p.1 : Int), p.2))) := by
  have K : Keeps (fun i => i = b) w w := Keeps.refl _ w
  have lt0_ := hr.lt
  have lw_ := hr
  refine Calls.start Tryz.func66 rfl (by kernel_rfl) ?_
  refine WC.seq ?_
  refine WC.region ?_
  refine WL.op (d := 2) (.int .i64 0) (k := ?_)
  refine WL.nil ?_
  refine WX.seqN ?_
  refine WC.seq ?_
  refine WC.region ?_
  refine WL.op (d := 6) (.pointer (some ⟨b, 0, none⟩)) (k := ?_)
  refine bsplit (Option.isSome (nextF xs)) (fun h1 => ?_) (fun h1 => ?_)
  · obtain ⟨⟨v4, t5⟩, hq2⟩ := isSome_ex h1
    have nl7 := nextF_le hr hq2
    have nl8 := nextF_len hq2
    refine WL.callG (d := 7) (f := 44) (args := #[.pointer (some ⟨b, 0, none⟩)]) (RdR.y (lnNext_c hr) (by rw [hq2]; rfl)) (k := fun e_ w9 h_ => ?_)
    obtain ⟨rfl, hr6, k3⟩ := h_
    refine ⟨_, rfl, ?_⟩
    replace K := K.trans' k3 (fun i hi e => e)
    clear hr
    refine WL.callG (d := 8) (f := 29) (args := #[.string ⟨(v4).toArray⟩]) (lnNumber_c (l := v4) (by show List.length v4 ≤ _; first | omega | (simp; done) | (simp; omega)) w9) (k := fun e_ w11 h_ => ⟨.tuple #[.int .i64 ((numV v4 : Nat) : Int), .bool (decide (numP v4))], h_.1, ?_⟩)
    have k12 := h_.2; clear h_
    replace hr6 := hr6.adds k12
    replace K := K.trans (k12.any _)
    have nv10 := numV_le v4
    refine WL.op (d := 5) (.tuple #[.int .i64 ((numV v4 : Nat) : Int), .bool (decide (numP v4))]) (k := ?_)
    refine WL.op (d := 9) (.int .i64 ((numV v4 : Nat) : Int)) (k := ?_)
    refine WL.op (d := 10) (.bool (decide (numP v4))) (k := ?_)
    refine WL.op (d := 3) (.int .i64 ((numV v4 : Nat) : Int)) (k := ?_)
    refine WL.op (d := 4) (.bool (decide (numP v4))) (k := ?_)
    refine WL.nil ?_
    refine WX.seqN ?_
    refine WC.seq ?_
    refine WC.region ?_
    refine WL.op (d := 11) (.bool (decide (numP v4))) (k := ?_)
    refine bsplit (decide (numP v4)) (fun h13 => ?_) (fun h13 => ?_)
    · have ph13 := of_decide_eq_true h13
      refine WL.callG (d := 12) (f := 49) (args := #[.bool (decide (numP v4))]) (lnMust_y h13 w11) (k := fun e_ w14 h_ => ⟨.tuple #[], h_.1, ?_⟩)
      have k15 := h_.2; clear h_
      replace hr6 := hr6.adds k15
      replace K := K.trans (k15.any _)
      refine WL.nil ?_
      refine WX.seqN ?_
      refine WC.seq ?_
      refine WC.region ?_
      refine WL.op (d := 13) (.int .i64 ((numV v4 : Nat) : Int)) (k := ?_)
      refine WL.op (d := 2) (.int .i64 ((numV v4 : Nat) : Int)) (k := ?_)
      refine WL.nil ?_
      refine WX.seqN ?_
      refine WC.ret ?_
      refine WX.ret (rs := [.tmp 2]) [.int .i64 ((numV v4 : Nat) : Int)] (.int .i64 ((numV v4 : Nat) : Int)) ⟨(by kernel_rfl), trivial⟩ (k := ?_)
      have e_ : numF xs = some (numV v4, t5) := by simp [numF, hq2, ph13]
      rw [e_]
      exact RdR.yes K rfl hr6
    · have ph13 := of_decide_eq_false h13
      refine WL.callGP (f := 49) (args := #[.bool (decide (numP v4))]) (lnMust_n h13 w11) (by kernel_rfl) (by kernel_rfl) (by kernel_rfl) (fun e_ w16 h_ => ?_)
      obtain ⟨rfl, k17⟩ := h_
      refine ⟨_, rfl, ?_⟩
      replace hr6 := hr6.adds k17
      replace K := K.trans (k17.any _)
      refine WX.seqP ?_
      refine WX.pan ?_
      have e_ : numF xs = none := by simp [numF, hq2, ph13]
      rw [e_]
      exact RdR.no K rfl
  · have hq18 := isSome_no h1
    refine WL.callGP (f := 44) (args := #[.pointer (some ⟨b, 0, none⟩)]) (RdR.n (lnNext_c hr) (by rw [hq18]; rfl)) (by kernel_rfl) (by kernel_rfl) (by kernel_rfl) (fun e_ w20 h_ => ?_)
    obtain ⟨rfl, k19⟩ := h_
    refine ⟨_, rfl, ?_⟩
    replace K := K.trans' k19 (fun i hi e => e)
    clear hr
    refine WX.seqP ?_
    refine WX.pan ?_
    have e_ : numF xs = none := by simp [numF, hq18]
    rw [e_]
    exact RdR.no K rfl
set_option maxRecDepth 100000 in
set_option maxHeartbeats 4000000 in
theorem lnRint_c {b : Nat} {xs : Words} {w : World} (hr : RdW b xs w) : Calls Tryz.prog 46 #[.pointer (some ⟨b, 0, none⟩)] w (RdR b w ((numF xs).map fun p => (.int .i64 (p.1 : Int), p.2))) := by
  have K : Keeps (fun i => i = b) w w := Keeps.refl _ w
  have lt0_ := hr.lt
  refine Calls.start Tryz.func46 rfl (by kernel_rfl) ?_
  refine WC.seq ?_
  refine WC.region ?_
  refine WL.op (d := 2) (.int .i64 0) (k := ?_)
  refine WL.nil ?_
  refine WX.seqN ?_
  refine WC.seq ?_
  refine WC.region ?_
  refine WL.op (d := 3) (.pointer (some ⟨b, 0, none⟩)) (k := ?_)
  refine bsplit (Option.isSome (numF xs)) (fun h1 => ?_) (fun h1 => ?_)
  · obtain ⟨⟨v4, t5⟩, hq2⟩ := isSome_ex h1
    have nl7 := numF_le hq2
    have nl8 := numF_len hq2
    refine WL.callG (d := 4) (f := 66) (args := #[.pointer (some ⟨b, 0, none⟩)]) (RdR.y (lnRnum_c hr) (by rw [hq2]; rfl)) (k := fun e_ w9 h_ => ?_)
    obtain ⟨rfl, hr6, k3⟩ := h_
    refine ⟨_, rfl, ?_⟩
    replace K := K.trans' k3 (fun i hi e => e)
    clear hr
    refine WL.op (d := 2) (.int .i64 (v4 : Int)) (k := ?_)
    refine WL.nil ?_
    refine WX.seqN ?_
    refine WC.ret ?_
    refine WX.ret (rs := [.tmp 2]) [.int .i64 (v4 : Int)] (.int .i64 (v4 : Int)) ⟨(by kernel_rfl), trivial⟩ (k := ?_)
    have e_ : numF xs = some (v4, t5) := by simp [hq2]
    rw [e_]
    exact RdR.yes K rfl hr6
  · have hq10 := isSome_no h1
    refine WL.callGP (f := 66) (args := #[.pointer (some ⟨b, 0, none⟩)]) (RdR.n (lnRnum_c hr) (by rw [hq10]; rfl)) (by kernel_rfl) (by kernel_rfl) (by kernel_rfl) (fun e_ w12 h_ => ?_)
    obtain ⟨rfl, k11⟩ := h_
    refine ⟨_, rfl, ?_⟩
    replace K := K.trans' k11 (fun i hi e => e)
    clear hr
    refine WX.seqP ?_
    refine WX.pan ?_
    have e_ : numF xs = none := by simp [hq10]
    rw [e_]
    exact RdR.no K rfl
end Go.Proofs.YtoeinhlmkpgjhaaGreatDoor
namespace Go.Proofs.YtoeinhlmkpgjhaaGreatDoor
open Go.RowKit
set_option linter.unusedVariables false
set_option linter.unusedSimpArgs false
set_option maxRecDepth 100000 in
set_option maxHeartbeats 4000000 in
theorem lnRtask_c {b : Nat} {xs : Words} {w : World} (hr : RdW b xs w) (hG : GB w) (hb6 : 6 ≤ b) : Calls Tryz.prog 67 #[.pointer (some ⟨b, 0, none⟩)] w (RdR b w ((tskF xs).map fun p => (p.1.val, p.2))) := by
  have K : Keeps (fun i => i = b) w w := Keeps.refl _ w
  have lt0_ := hr.lt
  refine Calls.start Tryz.func67 rfl (by kernel_rfl) ?_
  refine WC.seq ?_
  refine WC.region ?_
  refine WL.new (d := 2) (T := 29) #[.int .i64 0, .int .i64 0, .int .i64 0, .int .i64 0, .int .i64 0] (k := fun b1 w2 g3 hb4 k5 => ?_)
  have z6 := Nat.le_trans K.size g3
  have n7 : b < b1 := Nat.lt_of_lt_of_le hr.lt g3
  have n8 : b ≠ b1 := Nat.ne_of_lt (Nat.lt_of_lt_of_le hr.lt g3)
  replace hr := hr.adds k5
  replace K := K.trans (k5.any _)
  refine WL.nil ?_
  refine WX.seqN ?_
  refine WC.seq ?_
  refine WC.region ?_
  refine WL.op (d := 6) (.pointer (some ⟨b, 0, none⟩)) (k := ?_)
  refine bsplit (Option.isSome (nextF xs)) (fun h9 => ?_) (fun h9 => ?_)
  · obtain ⟨⟨v12, t13⟩, hq10⟩ := isSome_ex h9
    have nl15 := nextF_le hr hq10
    have nl16 := nextF_len hq10
    refine WL.callG (d := 7) (f := 44) (args := #[.pointer (some ⟨b, 0, none⟩)]) (RdR.y (lnNext_c hr) (by rw [hq10]; rfl)) (k := fun e_ w17 h_ => ?_)
    obtain ⟨rfl, hr14, k11⟩ := h_
    refine ⟨_, rfl, ?_⟩
    replace hb4 := k11.heap hb4 (Ne.symm n8)
    replace K := K.trans' k11 (fun i hi e => e)
    clear hr
    refine WL.callG (d := 8) (f := 10) (args := #[.string ⟨(v12).toArray⟩]) (lnParseTask_c (l := v12) (by show List.length v12 ≤ _; first | omega | (simp; done) | (simp; omega)) (hG.keeps K (fun i hi e => by omega))) (k := fun e_ w18 h_ => ⟨.tuple #[GTask.val (taskV v12), .bool (decide (taskP v12))], h_.1, ?_⟩)
    have k19 := h_.2; clear h_
    replace hr14 := hr14.adds k19
    replace hb4 := k19.heap hb4 id
    replace K := K.trans (k19.any _)
    refine WL.op (d := 5) (.tuple #[GTask.val (taskV v12), .bool (decide (taskP v12))]) (k := ?_)
    refine WL.op (d := 9) (GTask.val (taskV v12)) (k := ?_)
    refine WL.op (d := 10) (.bool (decide (taskP v12))) (k := ?_)
    refine WL.new (d := 3) (T := 29) #[.int .i64 0, .int .i64 0, .int .i64 0, .int .i64 0, .int .i64 0] (k := fun b20 w21 g22 hb23 k24 => ?_)
    have z25 := Nat.le_trans K.size g22
    have n26 : b < b20 := Nat.lt_of_lt_of_le hr14.lt g22
    have n27 : b ≠ b20 := Nat.ne_of_lt (Nat.lt_of_lt_of_le hr14.lt g22)
    have n28 : b1 ≠ b20 := Nat.ne_of_lt (Nat.lt_of_lt_of_le (lt_of_heap hb4) g22)
    replace hr14 := hr14.adds k24
    replace hb4 := k24.heap hb4 id
    replace K := K.trans (k24.any _)
    refine WL.store (v := GTask.val (taskV v12)) (i := 0) (cs' := (Value.cells (GTask.val (taskV v12)))) hb23 (k := fun w29 hb30 k31 => ?_)
    replace hr14 := hr14.keeps k31 (fun i e => e ▸ n26)
    replace hb4 := k31.heap hb4 n28
    replace K := K.trans' k31 (fun i hi e => absurd (e ▸ hi) (Nat.not_lt.2 z25))
    clear hb23
    refine WL.op (d := 4) (.bool (decide (taskP v12))) (k := ?_)
    refine WL.nil ?_
    refine WX.seqN ?_
    refine WC.seq ?_
    refine WC.region ?_
    refine WL.op (d := 11) (.bool (decide (taskP v12))) (k := ?_)
    refine bsplit (decide (taskP v12)) (fun h32 => ?_) (fun h32 => ?_)
    · have ph32 := of_decide_eq_true h32
      refine WL.callG (d := 12) (f := 49) (args := #[.bool (decide (taskP v12))]) (lnMust_y h32 w29) (k := fun e_ w33 h_ => ⟨.tuple #[], h_.1, ?_⟩)
      have k34 := h_.2; clear h_
      replace hr14 := hr14.adds k34
      replace hb4 := k34.heap hb4 id
      replace hb30 := k34.heap hb30 id
      replace K := K.trans (k34.any _)
      refine WL.nil ?_
      refine WX.seqN ?_
      refine WC.seq ?_
      refine WC.region ?_
      refine WL.load (v := GTask.val (taskV v12)) (ldN (T := 29) (i := 0) (m := 5) (l := (Value.cells (GTask.val (taskV v12))).toList) hb30) (k := ?_)
      refine WL.store (v := GTask.val (taskV v12)) (i := 0) (cs' := (Value.cells (GTask.val (taskV v12)))) hb4 (k := fun w35 hb36 k37 => ?_)
      replace hr14 := hr14.keeps k37 (fun i e => e ▸ n7)
      replace hb30 := k37.heap hb30 (Ne.symm n28)
      replace K := K.trans' k37 (fun i hi e => absurd (e ▸ hi) (Nat.not_lt.2 z6))
      clear hb4
      refine WL.nil ?_
      refine WX.seqN ?_
      refine WC.ret ?_
      refine WX.ret (rs := [.cell 2 29]) [GTask.val (taskV v12)] (GTask.val (taskV v12)) ⟨⟨_, (by kernel_rfl), ldN (T := 29) (i := 0) (m := 5) (l := (Value.cells (GTask.val (taskV v12))).toList) hb36⟩, trivial⟩ (k := ?_)
      have e_ : tskF xs = some ((taskV v12), t13) := by simp [tskF, hq10, ph32]
      rw [e_]
      exact RdR.yes K rfl hr14
    have ph32 := of_decide_eq_false h32
    refine WL.callGP (f := 49) (args := #[.bool (decide (taskP v12))]) (lnMust_n h32 w29) (by kernel_rfl) (by kernel_rfl) (by kernel_rfl) (fun e_ w38 h_ => ?_)
    obtain ⟨rfl, k39⟩ := h_
    refine ⟨_, rfl, ?_⟩
    replace hr14 := hr14.adds k39
    replace hb4 := k39.heap hb4 id
    replace hb30 := k39.heap hb30 id
    replace K := K.trans (k39.any _)
    refine WX.seqP ?_
    refine WX.pan ?_
    have e_ : tskF xs = none := by simp [tskF, hq10, ph32]
    rw [e_]
    exact RdR.no K rfl
  have hq40 := isSome_no h9
  refine WL.callGP (f := 44) (args := #[.pointer (some ⟨b, 0, none⟩)]) (RdR.n (lnNext_c hr) (by rw [hq40]; rfl)) (by kernel_rfl) (by kernel_rfl) (by kernel_rfl) (fun e_ w42 h_ => ?_)
  obtain ⟨rfl, k41⟩ := h_
  refine ⟨_, rfl, ?_⟩
  replace hb4 := k41.heap hb4 (Ne.symm n8)
  replace K := K.trans' k41 (fun i hi e => e)
  clear hr
  refine WX.seqP ?_
  refine WX.pan ?_
  have e_ : tskF xs = none := by simp [tskF, hq40]
  rw [e_]
  exact RdR.no K rfl
set_option maxRecDepth 100000 in
set_option maxHeartbeats 4000000 in
theorem lnWork_c {b : Nat} {xs : Words} {w : World} (hr : RdW b xs w) (k : Int) : Calls Tryz.prog 45 #[.pointer (some ⟨b, 0, none⟩), .int .i64 k] w (RdR b w ((wrkF k xs).map fun p => (GCmd.val ⟨p.1, none, 0⟩, p.2))) := by
  have K : Keeps (fun i => i = b) w w := Keeps.refl _ w
  have lt0_ := hr.lt
  refine Calls.start Tryz.func45 rfl (by kernel_rfl) ?_
  refine WC.seq ?_
  refine WC.region ?_
  refine WL.new (d := 4) (T := 39) #[.int .i64 0, .int .i64 0, .int .i64 0, .int .i64 0, .int .i64 0, .int .i64 0, .int .i64 0, .bool false, .int .i64 0, .int .i64 0, .int .i64 0, .int .i64 0, .int .i64 0, .int .i64 0, .slice none 0 0] (k := fun b1 w2 g3 hb4 k5 => ?_)
  have z6 := Nat.le_trans K.size g3
  have n7 : b < b1 := Nat.lt_of_lt_of_le hr.lt g3
  have n8 : b ≠ b1 := Nat.ne_of_lt (Nat.lt_of_lt_of_le hr.lt g3)
  replace hr := hr.adds k5
  replace K := K.trans (k5.any _)
  refine WL.nil ?_
  refine WX.seqN ?_
  refine WC.seq ?_
  refine WC.region ?_
  refine WL.op (d := 6) (.int .i64 k) (k := ?_)
  refine WL.op (d := 7) (.pointer (some ⟨b, 0, none⟩)) (k := ?_)
  refine bsplit (Option.isSome (numF xs)) (fun h9 => ?_) (fun h9 => ?_)
  · obtain ⟨⟨v12, t13⟩, hq10⟩ := isSome_ex h9
    have nl15 := numF_le hq10
    have nl16 := numF_len hq10
    refine WL.callG (d := 8) (f := 46) (args := #[.pointer (some ⟨b, 0, none⟩)]) (RdR.y (lnRint_c hr) (by rw [hq10]; rfl)) (k := fun e_ w17 h_ => ?_)
    obtain ⟨rfl, hr14, k11⟩ := h_
    refine ⟨_, rfl, ?_⟩
    replace hb4 := k11.heap hb4 (Ne.symm n8)
    replace K := K.trans' k11 (fun i hi e => e)
    clear hr
    refine WL.op (d := 9) (.agg #[.int .i64 k, .int .i64 0, .int .i64 0, .int .i64 0, .int .i64 0, .int .i64 0, .int .i64 0, .bool false, .int .i64 0, .int .i64 0, .int .i64 0, .int .i64 (v12 : Int), .int .i64 0, .int .i64 0, .slice none 0 0]) (k := ?_)
    refine WL.new (d := 5) (T := 39) #[.int .i64 0, .int .i64 0, .int .i64 0, .int .i64 0, .int .i64 0, .int .i64 0, .int .i64 0, .bool false, .int .i64 0, .int .i64 0, .int .i64 0, .int .i64 0, .int .i64 0, .int .i64 0, .slice none 0 0] (k := fun b18 w19 g20 hb21 k22 => ?_)
    have z23 := Nat.le_trans K.size g20
    have n24 : b < b18 := Nat.lt_of_lt_of_le hr14.lt g20
    have n25 : b ≠ b18 := Nat.ne_of_lt (Nat.lt_of_lt_of_le hr14.lt g20)
    have n26 : b1 ≠ b18 := Nat.ne_of_lt (Nat.lt_of_lt_of_le (lt_of_heap hb4) g20)
    replace hr14 := hr14.adds k22
    replace hb4 := k22.heap hb4 id
    replace K := K.trans (k22.any _)
    refine WL.store (v := .agg #[.int .i64 k, .int .i64 0, .int .i64 0, .int .i64 0, .int .i64 0, .int .i64 0, .int .i64 0, .bool false, .int .i64 0, .int .i64 0, .int .i64 0, .int .i64 (v12 : Int), .int .i64 0, .int .i64 0, .slice none 0 0]) (i := 0) (cs' := #[.int .i64 k, .int .i64 0, .int .i64 0, .int .i64 0, .int .i64 0, .int .i64 0, .int .i64 0, .bool false, .int .i64 0, .int .i64 0, .int .i64 0, .int .i64 (v12 : Int), .int .i64 0, .int .i64 0, .slice none 0 0]) hb21 (k := fun w27 hb28 k29 => ?_)
    replace hr14 := hr14.keeps k29 (fun i e => e ▸ n24)
    replace hb4 := k29.heap hb4 n26
    replace K := K.trans' k29 (fun i hi e => absurd (e ▸ hi) (Nat.not_lt.2 z23))
    clear hb21
    refine WL.nil ?_
    refine WX.seqN ?_
    refine WC.seq ?_
    refine WC.region ?_
    refine WL.op (d := 10) (.pointer (some ⟨b, 0, none⟩)) (k := ?_)
    refine bsplit (Option.isSome (numF t13)) (fun h30 => ?_) (fun h30 => ?_)
    · obtain ⟨⟨v33, t34⟩, hq31⟩ := isSome_ex h30
      have nl36 := numF_le hq31
      have nl37 := numF_len hq31
      refine WL.callG (d := 11) (f := 66) (args := #[.pointer (some ⟨b, 0, none⟩)]) (RdR.y (lnRnum_c hr14) (by rw [hq31]; rfl)) (k := fun e_ w38 h_ => ?_)
      obtain ⟨rfl, hr35, k32⟩ := h_
      refine ⟨_, rfl, ?_⟩
      replace hb4 := k32.heap hb4 (Ne.symm n8)
      replace hb28 := k32.heap hb28 (Ne.symm n25)
      replace K := K.trans' k32 (fun i hi e => e)
      clear hr14
      refine WL.op (d := 12) (.pointer (some ⟨b18, 12, none⟩)) (k := ?_)
      refine WL.store (v := .int .i64 (v33 : Int)) (i := 12) (cs' := #[.int .i64 k, .int .i64 0, .int .i64 0, .int .i64 0, .int .i64 0, .int .i64 0, .int .i64 0, .bool false, .int .i64 0, .int .i64 0, .int .i64 0, .int .i64 (v12 : Int), .int .i64 (v33 : Int), .int .i64 0, .slice none 0 0]) hb28 (k := fun w39 hb40 k41 => ?_)
      replace hr35 := hr35.keeps k41 (fun i e => e ▸ n24)
      replace hb4 := k41.heap hb4 n26
      replace K := K.trans' k41 (fun i hi e => absurd (e ▸ hi) (Nat.not_lt.2 z23))
      clear hb28
      refine WL.nil ?_
      refine WX.seqN ?_
      refine WC.seq ?_
      refine WC.region ?_
      refine WL.load (v := .agg #[.int .i64 k, .int .i64 0, .int .i64 0, .int .i64 0, .int .i64 0, .int .i64 0, .int .i64 0, .bool false, .int .i64 0, .int .i64 0, .int .i64 0, .int .i64 (v12 : Int), .int .i64 (v33 : Int), .int .i64 0, .slice none 0 0]) (ldN (T := 39) (i := 0) (m := 15) (l := [.int .i64 k, .int .i64 0, .int .i64 0, .int .i64 0, .int .i64 0, .int .i64 0, .int .i64 0, .bool false, .int .i64 0, .int .i64 0, .int .i64 0, .int .i64 (v12 : Int), .int .i64 (v33 : Int), .int .i64 0, .slice none 0 0]) hb40) (k := ?_)
      refine WL.store (v := .agg #[.int .i64 k, .int .i64 0, .int .i64 0, .int .i64 0, .int .i64 0, .int .i64 0, .int .i64 0, .bool false, .int .i64 0, .int .i64 0, .int .i64 0, .int .i64 (v12 : Int), .int .i64 (v33 : Int), .int .i64 0, .slice none 0 0]) (i := 0) (cs' := #[.int .i64 k, .int .i64 0, .int .i64 0, .int .i64 0, .int .i64 0, .int .i64 0, .int .i64 0, .bool false, .int .i64 0, .int .i64 0, .int .i64 0, .int .i64 (v12 : Int), .int .i64 (v33 : Int), .int .i64 0, .slice none 0 0]) hb4 (k := fun w42 hb43 k44 => ?_)
      replace hr35 := hr35.keeps k44 (fun i e => e ▸ n7)
      replace hb40 := k44.heap hb40 (Ne.symm n26)
      replace K := K.trans' k44 (fun i hi e => absurd (e ▸ hi) (Nat.not_lt.2 z6))
      clear hb4
      refine WL.nil ?_
      refine WX.seqN ?_
      refine WC.ret ?_
      refine WX.ret (rs := [.cell 4 39]) [.agg #[.int .i64 k, .int .i64 0, .int .i64 0, .int .i64 0, .int .i64 0, .int .i64 0, .int .i64 0, .bool false, .int .i64 0, .int .i64 0, .int .i64 0, .int .i64 (v12 : Int), .int .i64 (v33 : Int), .int .i64 0, .slice none 0 0]] (.agg #[.int .i64 k, .int .i64 0, .int .i64 0, .int .i64 0, .int .i64 0, .int .i64 0, .int .i64 0, .bool false, .int .i64 0, .int .i64 0, .int .i64 0, .int .i64 (v12 : Int), .int .i64 (v33 : Int), .int .i64 0, .slice none 0 0]) ⟨⟨_, (by kernel_rfl), ldN (T := 39) (i := 0) (m := 15) (l := [.int .i64 k, .int .i64 0, .int .i64 0, .int .i64 0, .int .i64 0, .int .i64 0, .int .i64 0, .bool false, .int .i64 0, .int .i64 0, .int .i64 0, .int .i64 (v12 : Int), .int .i64 (v33 : Int), .int .i64 0, .slice none 0 0]) hb43⟩, trivial⟩ (k := ?_)
      have e_ : wrkF k xs = some ((⟨k, GOp.zero, (v12 : Nat), (v33 : Nat), 0, []⟩ : PCmd), t34) := by simp [wrkF, hq10, hq31]
      rw [e_]
      exact RdR.yes K rfl hr35
    have hq45 := isSome_no h30
    refine WL.callGP (f := 66) (args := #[.pointer (some ⟨b, 0, none⟩)]) (RdR.n (lnRnum_c hr14) (by rw [hq45]; rfl)) (by kernel_rfl) (by kernel_rfl) (by kernel_rfl) (fun e_ w47 h_ => ?_)
    obtain ⟨rfl, k46⟩ := h_
    refine ⟨_, rfl, ?_⟩
    replace hb4 := k46.heap hb4 (Ne.symm n8)
    replace hb28 := k46.heap hb28 (Ne.symm n25)
    replace K := K.trans' k46 (fun i hi e => e)
    clear hr14
    refine WX.seqP ?_
    refine WX.pan ?_
    have e_ : wrkF k xs = none := by simp [wrkF, hq10, hq45]
    rw [e_]
    exact RdR.no K rfl
  have hq48 := isSome_no h9
  refine WL.callGP (f := 46) (args := #[.pointer (some ⟨b, 0, none⟩)]) (RdR.n (lnRint_c hr) (by rw [hq48]; rfl)) (by kernel_rfl) (by kernel_rfl) (by kernel_rfl) (fun e_ w50 h_ => ?_)
  obtain ⟨rfl, k49⟩ := h_
  refine ⟨_, rfl, ?_⟩
  replace hb4 := k49.heap hb4 (Ne.symm n8)
  replace K := K.trans' k49 (fun i hi e => e)
  clear hr
  refine WX.seqP ?_
  refine WX.pan ?_
  have e_ : wrkF k xs = none := by simp [wrkF, hq48]
  rw [e_]
  exact RdR.no K rfl
set_option maxRecDepth 100000 in
set_option maxHeartbeats 4000000 in
theorem lnChanges_c {b : Nat} {xs : Words} {w : World} (hr : RdW b xs w) (x : List UInt8) (hG : GB w) (hb6 : 6 ≤ b) : Calls Tryz.prog 48 #[.pointer (some ⟨b, 0, none⟩), .string ⟨x.toArray⟩] w (RdR b w ((chgF x xs).map fun p => (p.1.val, p.2))) := by
  have K : Keeps (fun i => i = b) w w := Keeps.refl _ w
  have lt0_ := hr.lt
  refine Calls.start Tryz.func48 rfl (by kernel_rfl) ?_
  refine WC.seq ?_
  refine WC.region ?_
  refine WL.new (d := 4) (T := 36) #[.int .i64 0, .int .i64 0, .int .i64 0, .int .i64 0, .int .i64 0, .int .i64 0, .bool false, .int .i64 0, .int .i64 0, .int .i64 0] (k := fun b1 w2 g3 hb4 k5 => ?_)
  have z6 := Nat.le_trans K.size g3
  have n7 : b < b1 := Nat.lt_of_lt_of_le hr.lt g3
  have n8 : b ≠ b1 := Nat.ne_of_lt (Nat.lt_of_lt_of_le hr.lt g3)
  replace hr := hr.adds k5
  replace K := K.trans (k5.any _)
  refine WL.nil ?_
  refine WX.seqN ?_
  refine WC.seq ?_
  refine WC.seq ?_
  refine WC.region ?_
  refine WL.op (d := 6) (.string ⟨(x).toArray⟩) (k := ?_)
  refine WL.nil ?_
  refine WX.seqN ?_
  refine WC.block ?_
  refine WC.seq ?_
  refine WC.seq ?_
  refine WC.region ?_
  refine WL.opE (d := 8) (.bool (ByteArray.toList ⟨(x).toArray⟩ == ByteArray.toList ⟨([97, 100, 109, 105, 116]).toArray⟩)) (v := .bool (decide (x = [97, 100, 109, 105, 116]))) (str_eql _ _) (k := ?_)
  refine WL.op (d := 7) (.bool (decide (x = [97, 100, 109, 105, 116]))) (k := ?_)
  refine WL.nil ?_
  refine WX.seqN ?_
  refine WC.cond (b := decide (x = [97, 100, 109, 105, 116])) (ht := fun h9 => ?_) (hf := fun h9 => ?_)
  · have ph9 := of_decide_eq_true h9
    refine WC.skip ?_
    refine WX.seqN ?_
    refine WC.rw (t := 7) (v := .bool true) (congrArg Value.bool h9) (k := ?_)
    refine WC.condT (k := ?_)
    refine WC.seq ?_
    refine WC.region ?_
    refine WL.op (d := 10) (.pointer (some ⟨b, 0, none⟩)) (k := ?_)
    refine bsplit (Option.isSome (tskF xs)) (fun h10 => ?_) (fun h10 => ?_)
    · obtain ⟨⟨v13, t14⟩, hq11⟩ := isSome_ex h10
      refine WL.callG (d := 11) (f := 67) (args := #[.pointer (some ⟨b, 0, none⟩)]) (RdR.y (lnRtask_c hr (hG.keeps K (fun i hi e => by omega)) hb6) (by rw [hq11]; rfl)) (k := fun e_ w16 h_ => ?_)
      obtain ⟨rfl, hr15, k12⟩ := h_
      refine ⟨_, rfl, ?_⟩
      replace hb4 := k12.heap hb4 (Ne.symm n8)
      replace K := K.trans' k12 (fun i hi e => e)
      clear hr
      refine WL.op (d := 12) (.string ⟨(x).toArray⟩) (k := ?_)
      refine WL.opE (d := 13) (.bool (ByteArray.toList ⟨(x).toArray⟩ == ByteArray.toList ⟨([115, 101, 114, 118, 101]).toArray⟩)) (v := .bool (decide (x = [115, 101, 114, 118, 101]))) (str_eql _ _) (k := ?_)
      refine WL.op (d := 14) (.agg #[.int .i64 1, .int .i64 v13.id, .int .i64 v13.c, .int .i64 v13.d, .int .i64 v13.t, .int .i64 v13.m, .bool (decide (x = [115, 101, 114, 118, 101])), .int .i64 0, .int .i64 0, .int .i64 0]) (k := ?_)
      refine WL.store (v := .agg #[.int .i64 1, .int .i64 v13.id, .int .i64 v13.c, .int .i64 v13.d, .int .i64 v13.t, .int .i64 v13.m, .bool (decide (x = [115, 101, 114, 118, 101])), .int .i64 0, .int .i64 0, .int .i64 0]) (i := 0) (cs' := #[.int .i64 1, .int .i64 v13.id, .int .i64 v13.c, .int .i64 v13.d, .int .i64 v13.t, .int .i64 v13.m, .bool (decide (x = [115, 101, 114, 118, 101])), .int .i64 0, .int .i64 0, .int .i64 0]) hb4 (k := fun w17 hb18 k19 => ?_)
      replace hr15 := hr15.keeps k19 (fun i e => e ▸ n7)
      replace K := K.trans' k19 (fun i hi e => absurd (e ▸ hi) (Nat.not_lt.2 z6))
      clear hb4
      refine WL.nil ?_
      refine WX.seqN ?_
      refine WC.ret ?_
      refine WX.blockR ?_
      refine WX.seqR ?_
      refine WX.ret (rs := [.cell 4 36]) [.agg #[.int .i64 1, .int .i64 v13.id, .int .i64 v13.c, .int .i64 v13.d, .int .i64 v13.t, .int .i64 v13.m, .bool (decide (x = [115, 101, 114, 118, 101])), .int .i64 0, .int .i64 0, .int .i64 0]] (.agg #[.int .i64 1, .int .i64 v13.id, .int .i64 v13.c, .int .i64 v13.d, .int .i64 v13.t, .int .i64 v13.m, .bool (decide (x = [115, 101, 114, 118, 101])), .int .i64 0, .int .i64 0, .int .i64 0]) ⟨⟨_, (by kernel_rfl), ldN (T := 36) (i := 0) (m := 10) (l := [.int .i64 1, .int .i64 v13.id, .int .i64 v13.c, .int .i64 v13.d, .int .i64 v13.t, .int .i64 v13.m, .bool (decide (x = [115, 101, 114, 118, 101])), .int .i64 0, .int .i64 0, .int .i64 0]) hb18⟩, trivial⟩ (k := ?_)
      have e_ : chgF x xs = some ((⟨1, v13, decide (x = [115, 101, 114, 118, 101]), 0, 0, 0⟩ : GOp), t14) := by simp [chgF, kAdmit, kServe, kRemove, kResize, kMode, hq11, ph9]
      rw [e_]
      exact RdR.yes K rfl hr15
    have hq20 := isSome_no h10
    refine WL.callGP (f := 67) (args := #[.pointer (some ⟨b, 0, none⟩)]) (RdR.n (lnRtask_c hr (hG.keeps K (fun i hi e => by omega)) hb6) (by rw [hq20]; rfl)) (by kernel_rfl) (by kernel_rfl) (by kernel_rfl) (fun e_ w22 h_ => ?_)
    obtain ⟨rfl, k21⟩ := h_
    refine ⟨_, rfl, ?_⟩
    replace hb4 := k21.heap hb4 (Ne.symm n8)
    replace K := K.trans' k21 (fun i hi e => e)
    clear hr
    refine WX.seqP ?_
    refine WX.blockP ?_
    refine WX.seqP ?_
    refine WX.pan ?_
    have e_ : chgF x xs = none := by simp [chgF, kAdmit, kServe, kRemove, kResize, kMode, hq20, ph9]
    rw [e_]
    exact RdR.no K rfl
  · have ph9 := of_decide_eq_false h9
    refine WC.region ?_
    refine WL.opE (d := 9) (.bool (ByteArray.toList ⟨(x).toArray⟩ == ByteArray.toList ⟨([115, 101, 114, 118, 101]).toArray⟩)) (v := .bool (decide (x = [115, 101, 114, 118, 101]))) (str_eql _ _) (k := ?_)
    refine WL.op (d := 7) (.bool (decide (x = [115, 101, 114, 118, 101]))) (k := ?_)
    refine WL.nil ?_
    refine WX.seqN ?_
    refine WC.cond (b := decide (x = [115, 101, 114, 118, 101])) (ht := fun h23 => ?_) (hf := fun h23 => ?_)
    · have ph23 := of_decide_eq_true h23
      refine WC.seq ?_
      refine WC.region ?_
      refine WL.op (d := 10) (.pointer (some ⟨b, 0, none⟩)) (k := ?_)
      refine bsplit (Option.isSome (tskF xs)) (fun h24 => ?_) (fun h24 => ?_)
      · obtain ⟨⟨v27, t28⟩, hq25⟩ := isSome_ex h24
        refine WL.callG (d := 11) (f := 67) (args := #[.pointer (some ⟨b, 0, none⟩)]) (RdR.y (lnRtask_c hr (hG.keeps K (fun i hi e => by omega)) hb6) (by rw [hq25]; rfl)) (k := fun e_ w30 h_ => ?_)
        obtain ⟨rfl, hr29, k26⟩ := h_
        refine ⟨_, rfl, ?_⟩
        replace hb4 := k26.heap hb4 (Ne.symm n8)
        replace K := K.trans' k26 (fun i hi e => e)
        clear hr
        refine WL.op (d := 12) (.string ⟨(x).toArray⟩) (k := ?_)
        refine WL.opE (d := 13) (.bool (ByteArray.toList ⟨(x).toArray⟩ == ByteArray.toList ⟨([115, 101, 114, 118, 101]).toArray⟩)) (v := .bool (decide (x = [115, 101, 114, 118, 101]))) (str_eql _ _) (k := ?_)
        refine WL.op (d := 14) (.agg #[.int .i64 1, .int .i64 v27.id, .int .i64 v27.c, .int .i64 v27.d, .int .i64 v27.t, .int .i64 v27.m, .bool (decide (x = [115, 101, 114, 118, 101])), .int .i64 0, .int .i64 0, .int .i64 0]) (k := ?_)
        refine WL.store (v := .agg #[.int .i64 1, .int .i64 v27.id, .int .i64 v27.c, .int .i64 v27.d, .int .i64 v27.t, .int .i64 v27.m, .bool (decide (x = [115, 101, 114, 118, 101])), .int .i64 0, .int .i64 0, .int .i64 0]) (i := 0) (cs' := #[.int .i64 1, .int .i64 v27.id, .int .i64 v27.c, .int .i64 v27.d, .int .i64 v27.t, .int .i64 v27.m, .bool (decide (x = [115, 101, 114, 118, 101])), .int .i64 0, .int .i64 0, .int .i64 0]) hb4 (k := fun w31 hb32 k33 => ?_)
        replace hr29 := hr29.keeps k33 (fun i e => e ▸ n7)
        replace K := K.trans' k33 (fun i hi e => absurd (e ▸ hi) (Nat.not_lt.2 z6))
        clear hb4
        refine WL.nil ?_
        refine WX.seqN ?_
        refine WC.ret ?_
        refine WX.blockR ?_
        refine WX.seqR ?_
        refine WX.ret (rs := [.cell 4 36]) [.agg #[.int .i64 1, .int .i64 v27.id, .int .i64 v27.c, .int .i64 v27.d, .int .i64 v27.t, .int .i64 v27.m, .bool (decide (x = [115, 101, 114, 118, 101])), .int .i64 0, .int .i64 0, .int .i64 0]] (.agg #[.int .i64 1, .int .i64 v27.id, .int .i64 v27.c, .int .i64 v27.d, .int .i64 v27.t, .int .i64 v27.m, .bool (decide (x = [115, 101, 114, 118, 101])), .int .i64 0, .int .i64 0, .int .i64 0]) ⟨⟨_, (by kernel_rfl), ldN (T := 36) (i := 0) (m := 10) (l := [.int .i64 1, .int .i64 v27.id, .int .i64 v27.c, .int .i64 v27.d, .int .i64 v27.t, .int .i64 v27.m, .bool (decide (x = [115, 101, 114, 118, 101])), .int .i64 0, .int .i64 0, .int .i64 0]) hb32⟩, trivial⟩ (k := ?_)
        have e_ : chgF x xs = some ((⟨1, v27, decide (x = [115, 101, 114, 118, 101]), 0, 0, 0⟩ : GOp), t28) := by simp [chgF, kAdmit, kServe, kRemove, kResize, kMode, hq25, ph9, ph23]
        rw [e_]
        exact RdR.yes K rfl hr29
      have hq34 := isSome_no h24
      refine WL.callGP (f := 67) (args := #[.pointer (some ⟨b, 0, none⟩)]) (RdR.n (lnRtask_c hr (hG.keeps K (fun i hi e => by omega)) hb6) (by rw [hq34]; rfl)) (by kernel_rfl) (by kernel_rfl) (by kernel_rfl) (fun e_ w36 h_ => ?_)
      obtain ⟨rfl, k35⟩ := h_
      refine ⟨_, rfl, ?_⟩
      replace hb4 := k35.heap hb4 (Ne.symm n8)
      replace K := K.trans' k35 (fun i hi e => e)
      clear hr
      refine WX.seqP ?_
      refine WX.blockP ?_
      refine WX.seqP ?_
      refine WX.pan ?_
      have e_ : chgF x xs = none := by simp [chgF, kAdmit, kServe, kRemove, kResize, kMode, hq34, ph9, ph23]
      rw [e_]
      exact RdR.no K rfl
    · have ph23 := of_decide_eq_false h23
      refine WC.seq ?_
      refine WC.region ?_
      refine WL.opE (d := 16) (.bool (ByteArray.toList ⟨(x).toArray⟩ == ByteArray.toList ⟨([114, 101, 109, 111, 118, 101]).toArray⟩)) (v := .bool (decide (x = [114, 101, 109, 111, 118, 101]))) (str_eql _ _) (k := ?_)
      refine WL.op (d := 15) (.bool (decide (x = [114, 101, 109, 111, 118, 101]))) (k := ?_)
      refine WL.nil ?_
      refine WX.seqN ?_
      refine WC.cond (b := decide (x = [114, 101, 109, 111, 118, 101])) (ht := fun h37 => ?_) (hf := fun h37 => ?_)
      · have ph37 := of_decide_eq_true h37
        refine WC.seq ?_
        refine WC.region ?_
        refine WL.op (d := 17) (.pointer (some ⟨b, 0, none⟩)) (k := ?_)
        refine bsplit (Option.isSome (numF xs)) (fun h38 => ?_) (fun h38 => ?_)
        · obtain ⟨⟨v41, t42⟩, hq39⟩ := isSome_ex h38
          have nl44 := numF_le hq39
          have nl45 := numF_len hq39
          refine WL.callG (d := 18) (f := 46) (args := #[.pointer (some ⟨b, 0, none⟩)]) (RdR.y (lnRint_c hr) (by rw [hq39]; rfl)) (k := fun e_ w46 h_ => ?_)
          obtain ⟨rfl, hr43, k40⟩ := h_
          refine ⟨_, rfl, ?_⟩
          replace hb4 := k40.heap hb4 (Ne.symm n8)
          replace K := K.trans' k40 (fun i hi e => e)
          clear hr
          refine WL.op (d := 19) (.agg #[.int .i64 2, .int .i64 0, .int .i64 0, .int .i64 0, .int .i64 0, .int .i64 0, .bool false, .int .i64 (v41 : Int), .int .i64 0, .int .i64 0]) (k := ?_)
          refine WL.store (v := .agg #[.int .i64 2, .int .i64 0, .int .i64 0, .int .i64 0, .int .i64 0, .int .i64 0, .bool false, .int .i64 (v41 : Int), .int .i64 0, .int .i64 0]) (i := 0) (cs' := #[.int .i64 2, .int .i64 0, .int .i64 0, .int .i64 0, .int .i64 0, .int .i64 0, .bool false, .int .i64 (v41 : Int), .int .i64 0, .int .i64 0]) hb4 (k := fun w47 hb48 k49 => ?_)
          replace hr43 := hr43.keeps k49 (fun i e => e ▸ n7)
          replace K := K.trans' k49 (fun i hi e => absurd (e ▸ hi) (Nat.not_lt.2 z6))
          clear hb4
          refine WL.nil ?_
          refine WX.seqN ?_
          refine WC.ret ?_
          refine WX.blockR ?_
          refine WX.seqR ?_
          refine WX.ret (rs := [.cell 4 36]) [.agg #[.int .i64 2, .int .i64 0, .int .i64 0, .int .i64 0, .int .i64 0, .int .i64 0, .bool false, .int .i64 (v41 : Int), .int .i64 0, .int .i64 0]] (.agg #[.int .i64 2, .int .i64 0, .int .i64 0, .int .i64 0, .int .i64 0, .int .i64 0, .bool false, .int .i64 (v41 : Int), .int .i64 0, .int .i64 0]) ⟨⟨_, (by kernel_rfl), ldN (T := 36) (i := 0) (m := 10) (l := [.int .i64 2, .int .i64 0, .int .i64 0, .int .i64 0, .int .i64 0, .int .i64 0, .bool false, .int .i64 (v41 : Int), .int .i64 0, .int .i64 0]) hb48⟩, trivial⟩ (k := ?_)
          have e_ : chgF x xs = some ((⟨2, ⟨0, 0, 0, 0, 0⟩, false, (v41 : Int), 0, 0⟩ : GOp), t42) := by simp [chgF, kAdmit, kServe, kRemove, kResize, kMode, hq39, ph9, ph23, ph37]
          rw [e_]
          exact RdR.yes K rfl hr43
        have hq50 := isSome_no h38
        refine WL.callGP (f := 46) (args := #[.pointer (some ⟨b, 0, none⟩)]) (RdR.n (lnRint_c hr) (by rw [hq50]; rfl)) (by kernel_rfl) (by kernel_rfl) (by kernel_rfl) (fun e_ w52 h_ => ?_)
        obtain ⟨rfl, k51⟩ := h_
        refine ⟨_, rfl, ?_⟩
        replace hb4 := k51.heap hb4 (Ne.symm n8)
        replace K := K.trans' k51 (fun i hi e => e)
        clear hr
        refine WX.seqP ?_
        refine WX.blockP ?_
        refine WX.seqP ?_
        refine WX.pan ?_
        have e_ : chgF x xs = none := by simp [chgF, kAdmit, kServe, kRemove, kResize, kMode, hq50, ph9, ph23, ph37]
        rw [e_]
        exact RdR.no K rfl
      · have ph37 := of_decide_eq_false h37
        refine WC.seq ?_
        refine WC.region ?_
        refine WL.opE (d := 21) (.bool (ByteArray.toList ⟨(x).toArray⟩ == ByteArray.toList ⟨([114, 101, 115, 105, 122, 101]).toArray⟩)) (v := .bool (decide (x = [114, 101, 115, 105, 122, 101]))) (str_eql _ _) (k := ?_)
        refine WL.op (d := 20) (.bool (decide (x = [114, 101, 115, 105, 122, 101]))) (k := ?_)
        refine WL.nil ?_
        refine WX.seqN ?_
        refine WC.cond (b := decide (x = [114, 101, 115, 105, 122, 101])) (ht := fun h53 => ?_) (hf := fun h53 => ?_)
        · have ph53 := of_decide_eq_true h53
          refine WC.seq ?_
          refine WC.region ?_
          refine WL.op (d := 22) (.pointer (some ⟨b, 0, none⟩)) (k := ?_)
          refine bsplit (Option.isSome (numF xs)) (fun h54 => ?_) (fun h54 => ?_)
          · obtain ⟨⟨v57, t58⟩, hq55⟩ := isSome_ex h54
            have nl60 := numF_le hq55
            have nl61 := numF_len hq55
            refine WL.callG (d := 23) (f := 46) (args := #[.pointer (some ⟨b, 0, none⟩)]) (RdR.y (lnRint_c hr) (by rw [hq55]; rfl)) (k := fun e_ w62 h_ => ?_)
            obtain ⟨rfl, hr59, k56⟩ := h_
            refine ⟨_, rfl, ?_⟩
            replace hb4 := k56.heap hb4 (Ne.symm n8)
            replace K := K.trans' k56 (fun i hi e => e)
            clear hr
            refine WL.op (d := 24) (.agg #[.int .i64 3, .int .i64 0, .int .i64 0, .int .i64 0, .int .i64 0, .int .i64 0, .bool false, .int .i64 (v57 : Int), .int .i64 0, .int .i64 0]) (k := ?_)
            refine WL.new (d := 5) (T := 36) #[.int .i64 0, .int .i64 0, .int .i64 0, .int .i64 0, .int .i64 0, .int .i64 0, .bool false, .int .i64 0, .int .i64 0, .int .i64 0] (k := fun b63 w64 g65 hb66 k67 => ?_)
            have z68 := Nat.le_trans K.size g65
            have n69 : b < b63 := Nat.lt_of_lt_of_le hr59.lt g65
            have n70 : b ≠ b63 := Nat.ne_of_lt (Nat.lt_of_lt_of_le hr59.lt g65)
            have n71 : b1 ≠ b63 := Nat.ne_of_lt (Nat.lt_of_lt_of_le (lt_of_heap hb4) g65)
            replace hr59 := hr59.adds k67
            replace hb4 := k67.heap hb4 id
            replace K := K.trans (k67.any _)
            refine WL.store (v := .agg #[.int .i64 3, .int .i64 0, .int .i64 0, .int .i64 0, .int .i64 0, .int .i64 0, .bool false, .int .i64 (v57 : Int), .int .i64 0, .int .i64 0]) (i := 0) (cs' := #[.int .i64 3, .int .i64 0, .int .i64 0, .int .i64 0, .int .i64 0, .int .i64 0, .bool false, .int .i64 (v57 : Int), .int .i64 0, .int .i64 0]) hb66 (k := fun w72 hb73 k74 => ?_)
            replace hr59 := hr59.keeps k74 (fun i e => e ▸ n69)
            replace hb4 := k74.heap hb4 n71
            replace K := K.trans' k74 (fun i hi e => absurd (e ▸ hi) (Nat.not_lt.2 z68))
            clear hb66
            refine WL.nil ?_
            refine WX.seqN ?_
            refine WC.seq ?_
            refine WC.region ?_
            refine WL.op (d := 25) (.pointer (some ⟨b, 0, none⟩)) (k := ?_)
            refine bsplit (Option.isSome (numF t58)) (fun h75 => ?_) (fun h75 => ?_)
            · obtain ⟨⟨v78, t79⟩, hq76⟩ := isSome_ex h75
              have nl81 := numF_le hq76
              have nl82 := numF_len hq76
              refine WL.callG (d := 26) (f := 66) (args := #[.pointer (some ⟨b, 0, none⟩)]) (RdR.y (lnRnum_c hr59) (by rw [hq76]; rfl)) (k := fun e_ w83 h_ => ?_)
              obtain ⟨rfl, hr80, k77⟩ := h_
              refine ⟨_, rfl, ?_⟩
              replace hb4 := k77.heap hb4 (Ne.symm n8)
              replace hb73 := k77.heap hb73 (Ne.symm n70)
              replace K := K.trans' k77 (fun i hi e => e)
              clear hr59
              refine WL.op (d := 27) (.pointer (some ⟨b63, 8, none⟩)) (k := ?_)
              refine WL.store (v := .int .i64 (v78 : Int)) (i := 8) (cs' := #[.int .i64 3, .int .i64 0, .int .i64 0, .int .i64 0, .int .i64 0, .int .i64 0, .bool false, .int .i64 (v57 : Int), .int .i64 (v78 : Int), .int .i64 0]) hb73 (k := fun w84 hb85 k86 => ?_)
              replace hr80 := hr80.keeps k86 (fun i e => e ▸ n69)
              replace hb4 := k86.heap hb4 n71
              replace K := K.trans' k86 (fun i hi e => absurd (e ▸ hi) (Nat.not_lt.2 z68))
              clear hb73
              refine WL.nil ?_
              refine WX.seqN ?_
              refine WC.seq ?_
              refine WC.region ?_
              refine WL.load (v := .agg #[.int .i64 3, .int .i64 0, .int .i64 0, .int .i64 0, .int .i64 0, .int .i64 0, .bool false, .int .i64 (v57 : Int), .int .i64 (v78 : Int), .int .i64 0]) (ldN (T := 36) (i := 0) (m := 10) (l := [.int .i64 3, .int .i64 0, .int .i64 0, .int .i64 0, .int .i64 0, .int .i64 0, .bool false, .int .i64 (v57 : Int), .int .i64 (v78 : Int), .int .i64 0]) hb85) (k := ?_)
              refine WL.store (v := .agg #[.int .i64 3, .int .i64 0, .int .i64 0, .int .i64 0, .int .i64 0, .int .i64 0, .bool false, .int .i64 (v57 : Int), .int .i64 (v78 : Int), .int .i64 0]) (i := 0) (cs' := #[.int .i64 3, .int .i64 0, .int .i64 0, .int .i64 0, .int .i64 0, .int .i64 0, .bool false, .int .i64 (v57 : Int), .int .i64 (v78 : Int), .int .i64 0]) hb4 (k := fun w87 hb88 k89 => ?_)
              replace hr80 := hr80.keeps k89 (fun i e => e ▸ n7)
              replace hb85 := k89.heap hb85 (Ne.symm n71)
              replace K := K.trans' k89 (fun i hi e => absurd (e ▸ hi) (Nat.not_lt.2 z6))
              clear hb4
              refine WL.nil ?_
              refine WX.seqN ?_
              refine WC.ret ?_
              refine WX.blockR ?_
              refine WX.seqR ?_
              refine WX.ret (rs := [.cell 4 36]) [.agg #[.int .i64 3, .int .i64 0, .int .i64 0, .int .i64 0, .int .i64 0, .int .i64 0, .bool false, .int .i64 (v57 : Int), .int .i64 (v78 : Int), .int .i64 0]] (.agg #[.int .i64 3, .int .i64 0, .int .i64 0, .int .i64 0, .int .i64 0, .int .i64 0, .bool false, .int .i64 (v57 : Int), .int .i64 (v78 : Int), .int .i64 0]) ⟨⟨_, (by kernel_rfl), ldN (T := 36) (i := 0) (m := 10) (l := [.int .i64 3, .int .i64 0, .int .i64 0, .int .i64 0, .int .i64 0, .int .i64 0, .bool false, .int .i64 (v57 : Int), .int .i64 (v78 : Int), .int .i64 0]) hb88⟩, trivial⟩ (k := ?_)
              have e_ : chgF x xs = some ((⟨3, ⟨0, 0, 0, 0, 0⟩, false, (v57 : Int), (v78 : Int), 0⟩ : GOp), t79) := by simp [chgF, kAdmit, kServe, kRemove, kResize, kMode, hq55, hq76, ph9, ph23, ph37, ph53]
              rw [e_]
              exact RdR.yes K rfl hr80
            have hq90 := isSome_no h75
            refine WL.callGP (f := 66) (args := #[.pointer (some ⟨b, 0, none⟩)]) (RdR.n (lnRnum_c hr59) (by rw [hq90]; rfl)) (by kernel_rfl) (by kernel_rfl) (by kernel_rfl) (fun e_ w92 h_ => ?_)
            obtain ⟨rfl, k91⟩ := h_
            refine ⟨_, rfl, ?_⟩
            replace hb4 := k91.heap hb4 (Ne.symm n8)
            replace hb73 := k91.heap hb73 (Ne.symm n70)
            replace K := K.trans' k91 (fun i hi e => e)
            clear hr59
            refine WX.seqP ?_
            refine WX.blockP ?_
            refine WX.seqP ?_
            refine WX.pan ?_
            have e_ : chgF x xs = none := by simp [chgF, kAdmit, kServe, kRemove, kResize, kMode, hq55, hq90, ph9, ph23, ph37, ph53]
            rw [e_]
            exact RdR.no K rfl
          have hq93 := isSome_no h54
          refine WL.callGP (f := 46) (args := #[.pointer (some ⟨b, 0, none⟩)]) (RdR.n (lnRint_c hr) (by rw [hq93]; rfl)) (by kernel_rfl) (by kernel_rfl) (by kernel_rfl) (fun e_ w95 h_ => ?_)
          obtain ⟨rfl, k94⟩ := h_
          refine ⟨_, rfl, ?_⟩
          replace hb4 := k94.heap hb4 (Ne.symm n8)
          replace K := K.trans' k94 (fun i hi e => e)
          clear hr
          refine WX.seqP ?_
          refine WX.blockP ?_
          refine WX.seqP ?_
          refine WX.pan ?_
          have e_ : chgF x xs = none := by simp [chgF, kAdmit, kServe, kRemove, kResize, kMode, hq93, ph9, ph23, ph37, ph53]
          rw [e_]
          exact RdR.no K rfl
        · have ph53 := of_decide_eq_false h53
          refine WC.seq ?_
          refine WC.region ?_
          refine WL.opE (d := 30) (.bool (ByteArray.toList ⟨(x).toArray⟩ == ByteArray.toList ⟨([109, 111, 100, 101]).toArray⟩)) (v := .bool (decide (x = [109, 111, 100, 101]))) (str_eql _ _) (k := ?_)
          refine WL.op (d := 29) (.bool (decide (x = [109, 111, 100, 101]))) (k := ?_)
          refine WL.nil ?_
          refine WX.seqN ?_
          refine WC.cond (b := decide (x = [109, 111, 100, 101])) (ht := fun h96 => ?_) (hf := fun h96 => ?_)
          · have ph96 := of_decide_eq_true h96
            refine WC.seq ?_
            refine WC.region ?_
            refine WL.op (d := 31) (.pointer (some ⟨b, 0, none⟩)) (k := ?_)
            refine bsplit (Option.isSome (numF xs)) (fun h97 => ?_) (fun h97 => ?_)
            · obtain ⟨⟨v100, t101⟩, hq98⟩ := isSome_ex h97
              have nl103 := numF_le hq98
              have nl104 := numF_len hq98
              refine WL.callG (d := 32) (f := 46) (args := #[.pointer (some ⟨b, 0, none⟩)]) (RdR.y (lnRint_c hr) (by rw [hq98]; rfl)) (k := fun e_ w105 h_ => ?_)
              obtain ⟨rfl, hr102, k99⟩ := h_
              refine ⟨_, rfl, ?_⟩
              replace hb4 := k99.heap hb4 (Ne.symm n8)
              replace K := K.trans' k99 (fun i hi e => e)
              clear hr
              refine WL.op (d := 33) (.agg #[.int .i64 4, .int .i64 0, .int .i64 0, .int .i64 0, .int .i64 0, .int .i64 0, .bool false, .int .i64 0, .int .i64 0, .int .i64 (v100 : Int)]) (k := ?_)
              refine WL.store (v := .agg #[.int .i64 4, .int .i64 0, .int .i64 0, .int .i64 0, .int .i64 0, .int .i64 0, .bool false, .int .i64 0, .int .i64 0, .int .i64 (v100 : Int)]) (i := 0) (cs' := #[.int .i64 4, .int .i64 0, .int .i64 0, .int .i64 0, .int .i64 0, .int .i64 0, .bool false, .int .i64 0, .int .i64 0, .int .i64 (v100 : Int)]) hb4 (k := fun w106 hb107 k108 => ?_)
              replace hr102 := hr102.keeps k108 (fun i e => e ▸ n7)
              replace K := K.trans' k108 (fun i hi e => absurd (e ▸ hi) (Nat.not_lt.2 z6))
              clear hb4
              refine WL.nil ?_
              refine WX.seqN ?_
              refine WC.ret ?_
              refine WX.blockR ?_
              refine WX.seqR ?_
              refine WX.ret (rs := [.cell 4 36]) [.agg #[.int .i64 4, .int .i64 0, .int .i64 0, .int .i64 0, .int .i64 0, .int .i64 0, .bool false, .int .i64 0, .int .i64 0, .int .i64 (v100 : Int)]] (.agg #[.int .i64 4, .int .i64 0, .int .i64 0, .int .i64 0, .int .i64 0, .int .i64 0, .bool false, .int .i64 0, .int .i64 0, .int .i64 (v100 : Int)]) ⟨⟨_, (by kernel_rfl), ldN (T := 36) (i := 0) (m := 10) (l := [.int .i64 4, .int .i64 0, .int .i64 0, .int .i64 0, .int .i64 0, .int .i64 0, .bool false, .int .i64 0, .int .i64 0, .int .i64 (v100 : Int)]) hb107⟩, trivial⟩ (k := ?_)
              have e_ : chgF x xs = some ((⟨4, ⟨0, 0, 0, 0, 0⟩, false, 0, 0, (v100 : Int)⟩ : GOp), t101) := by simp [chgF, kAdmit, kServe, kRemove, kResize, kMode, hq98, ph9, ph23, ph37, ph53, ph96]
              rw [e_]
              exact RdR.yes K rfl hr102
            have hq109 := isSome_no h97
            refine WL.callGP (f := 46) (args := #[.pointer (some ⟨b, 0, none⟩)]) (RdR.n (lnRint_c hr) (by rw [hq109]; rfl)) (by kernel_rfl) (by kernel_rfl) (by kernel_rfl) (fun e_ w111 h_ => ?_)
            obtain ⟨rfl, k110⟩ := h_
            refine ⟨_, rfl, ?_⟩
            replace hb4 := k110.heap hb4 (Ne.symm n8)
            replace K := K.trans' k110 (fun i hi e => e)
            clear hr
            refine WX.seqP ?_
            refine WX.blockP ?_
            refine WX.seqP ?_
            refine WX.pan ?_
            have e_ : chgF x xs = none := by simp [chgF, kAdmit, kServe, kRemove, kResize, kMode, hq109, ph9, ph23, ph37, ph53, ph96]
            rw [e_]
            exact RdR.no K rfl
          · have ph96 := of_decide_eq_false h96
            refine WC.skip ?_
            refine WX.blockN ?_
            refine WX.seqN ?_
            refine WC.region ?_
            refine WL.op (d := 34) (.agg #[]) (k := ?_)
            refine WL.op (d := 35) (.iface 104 (.agg #[])) (k := ?_)
            refine WL.panicV (.iface 104 (.agg #[])) (by kernel_rfl) (by kernel_rfl) (by kernel_rfl) ?_
            refine WX.pan ?_
            have e_ : chgF x xs = none := by simp [chgF, kAdmit, kServe, kRemove, kResize, kMode, ph9, ph23, ph37, ph53, ph96]
            rw [e_]
            exact RdR.no K rfl
theorem lnWork_a {b : Nat} {xs : Words} {w : World} {k : Int} (hr : RdW b xs w) : Calls Tryz.prog 45 #[.pointer (some ⟨b, 0, none⟩), .int .i64 k] w (RdR b w ((wrkF k xs).map fun p => (GCmd.val ⟨p.1, none, 0⟩, p.2))) := lnWork_c hr k
theorem lnChanges_a {b : Nat} {xs : Words} {w : World} {x : List UInt8} (hr : RdW b xs w) (hG : GB w) (hb6 : 6 ≤ b) : Calls Tryz.prog 48 #[.pointer (some ⟨b, 0, none⟩), .string ⟨x.toArray⟩] w (RdR b w ((chgF x xs).map fun p => (p.1.val, p.2))) := lnChanges_c hr x hG hb6
end Go.Proofs.YtoeinhlmkpgjhaaGreatDoor
