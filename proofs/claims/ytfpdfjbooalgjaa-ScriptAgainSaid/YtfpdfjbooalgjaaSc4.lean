/- Commands are read. -/
import Derived.Test.YtfpdfjbooalgjaaSc3
import Derived.Test.YtfpdfjbooalgjaaSc1
namespace Go.Proofs.Ytfpdfjbooalgjaa
open Go.RowKit
set_option linter.unusedVariables false
set_option linter.unusedSimpArgs false

set_option maxRecDepth 100000 in
set_option maxHeartbeats 4000000 in
theorem sTakes_c {b : Nat} {l : List UInt8} {w : World} (hr : RdAt b (some l) w) (hl : stLen (some l) ≤ 1000000000) : Calls Try.prog 33 #[.pointer (some ⟨b, 0, none⟩)] w fun e w' => ∃ (c : GCmd) (st : Option (List UInt8)) (is : Bool), e = .returned (.tuple #[c.val, .bool is]) ∧ Got l c.p st (is = true) ∧ OwAt fateC 2 50 c.A c.cap c.p.fs w' ∧ RdAt b st w' ∧ Keeps (fun k => k = b) w w' ∧ stLen st ≤ 1000000000 ∧ (∀ i, blk c.A = some i → w.heap.size ≤ i) := by
  have K : Keeps (fun k => k = b) w w := Keeps.refl _ w
  refine Calls.start Try.func33 rfl (by kernel_rfl) ?_
  refine WC.seq ?_
  refine WC.region ?_
  refine WL.new (d := 2) (T := 32) #[.int .i64 0, .int .i64 0, .int .i64 0, .int .i64 0, .int .i64 0, .int .i64 0, .int .i64 0, .bool false, .int .i64 0, .int .i64 0, .int .i64 0, .int .i64 0, .int .i64 0, .int .i64 0, .slice none 0 0] (k := fun b1 w2 g3 hb4 k5 => ?_)
  have z6 := Nat.le_trans K.size g3
  have n7 : b ≠ b1 := Nat.ne_of_lt (Nat.lt_of_lt_of_le hr.lt g3)
  replace hr := hr.keeps k5 id
  replace K := K.trans (k5.any _)
  refine WL.op (d := 3) (.bool false) (k := ?_)
  refine WL.nil ?_
  refine WX.seqN ?_
  refine WC.seq ?_
  refine WC.region ?_
  refine WL.op (d := 7) (.pointer (some ⟨b, 0, none⟩)) (k := ?_)
  refine WL.callG (d := 8) (f := 51) (args := #[.pointer (some ⟨b, 0, none⟩), .int .i64 9]) (rInt_x 9 hr hl (by omega) (by omega)) (k := fun e_ w8 h_ => ?_)
  obtain ⟨n9, s10, q11, rfl, hr12, k13, l14, m15⟩ := h_
  refine ⟨_, rfl, ?_⟩
  replace hb4 := k13.heap hb4 (Ne.symm n7)
  replace K := K.trans' k13 (fun i hi e => e)
  clear hr
  refine WL.op (d := 9) (.agg #[.int .i64 (n9 : Int), .int .i64 0, .int .i64 0, .int .i64 0, .int .i64 0, .int .i64 0, .int .i64 0, .bool false, .int .i64 0, .int .i64 0, .int .i64 0, .int .i64 0, .int .i64 0, .int .i64 0, .slice none 0 0]) (k := ?_)
  refine WL.new (d := 4) (T := 32) #[.int .i64 0, .int .i64 0, .int .i64 0, .int .i64 0, .int .i64 0, .int .i64 0, .int .i64 0, .bool false, .int .i64 0, .int .i64 0, .int .i64 0, .int .i64 0, .int .i64 0, .int .i64 0, .slice none 0 0] (k := fun b16 w17 g18 hb19 k20 => ?_)
  have z21 := Nat.le_trans K.size g18
  have n22 : b ≠ b16 := Nat.ne_of_lt (Nat.lt_of_lt_of_le hr12.lt g18)
  have n23 : b1 ≠ b16 := Nat.ne_of_lt (Nat.lt_of_lt_of_le (lt_of_heap hb4) g18)
  replace hr12 := hr12.keeps k20 id
  replace hb4 := k20.heap hb4 id
  replace K := K.trans (k20.any _)
  refine WL.store (v := .agg #[.int .i64 (n9 : Int), .int .i64 0, .int .i64 0, .int .i64 0, .int .i64 0, .int .i64 0, .int .i64 0, .bool false, .int .i64 0, .int .i64 0, .int .i64 0, .int .i64 0, .int .i64 0, .int .i64 0, .slice none 0 0]) (i := 0) (cs' := #[.int .i64 (n9 : Int), .int .i64 0, .int .i64 0, .int .i64 0, .int .i64 0, .int .i64 0, .int .i64 0, .bool false, .int .i64 0, .int .i64 0, .int .i64 0, .int .i64 0, .int .i64 0, .int .i64 0, .slice none 0 0]) hb19 (k := fun w24 hb25 k26 => ?_)
  replace hr12 := hr12.keeps k26 n22
  replace hb4 := k26.heap hb4 n23
  replace K := K.trans' k26 (fun i hi e => absurd (e ▸ hi) (Nat.not_lt.2 z21))
  clear hb19
  refine WL.nil ?_
  refine WX.seqN ?_
  refine WC.seq ?_
  refine WC.region ?_
  refine WL.op (d := 5) (.int .i64 0) (k := ?_)
  refine WL.nil ?_
  refine WX.seqN ?_
  refine WC.seq ?_
  refine WC.seq ?_
  refine WC.region ?_
  refine WL.op (d := 10) (.pointer (some ⟨b16, 0, none⟩)) (k := ?_)
  refine WL.load (v := .int .i64 (n9 : Int)) (ld1 (T := 3) (i := 0) hb25) (k := ?_)
  refine WL.nil ?_
  refine WX.seqN ?_
  refine WC.block ?_
  refine WC.seq ?_
  refine WC.region ?_
  refine WL.op (d := 13) (.bool ((n9 : Int) == 1)) (k := ?_)
  refine WL.op (d := 12) (.bool ((n9 : Int) == 1)) (k := ?_)
  refine WL.nil ?_
  refine WX.seqN ?_
  refine WC.cond (b := (n9 : Int) == 1) (ht := fun h27 => ?_) (hf := fun h27 => ?_)
  · have ph27 := eq_of_beq h27
    refine WC.region ?_
    refine WL.op (d := 15) (.pointer (some ⟨b, 0, none⟩)) (k := ?_)
    refine WL.callG (d := 16) (f := 53) (args := #[.pointer (some ⟨b, 0, none⟩), .int .i64 43]) (rText_x 43 hr12 l14 (by omega)) (k := fun e_ w28 h_ => ?_)
    obtain ⟨n29, s30, q31, rfl, hr32, k33, l34, m35⟩ := h_
    refine ⟨_, rfl, ?_⟩
    replace hb4 := k33.heap hb4 (Ne.symm n7)
    replace hb25 := k33.heap hb25 (Ne.symm n22)
    replace K := K.trans' k33 (fun i hi e => e)
    clear hr12
    have ln36 := rdText_le q31
    refine WL.callG (d := 17) (f := 52) (args := #[.string ⟨(n29).toArray⟩]) (pRead_v n29 (by show List.length n29 ≤ _; first | omega | (simp; omega)) w28) (k := fun e_ w37 h_ => ⟨.tuple #[GOp.val (opVal (opOf n29)), .int .i64 (opErr (opOf n29))], h_.1, ?_⟩)
    have k38 := h_.2; clear h_
    replace hr32 := hr32.keeps k38 id
    replace hb4 := k38.heap hb4 id
    replace hb25 := k38.heap hb25 id
    replace K := K.trans (k38.any _)
    refine WL.op (d := 14) (.tuple #[GOp.val (opVal (opOf n29)), .int .i64 (opErr (opOf n29))]) (k := ?_)
    refine WL.op (d := 18) (GOp.val (opVal (opOf n29))) (k := ?_)
    refine WL.op (d := 19) (.int .i64 (opErr (opOf n29))) (k := ?_)
    refine WL.op (d := 20) (.pointer (some ⟨b16, 1, none⟩)) (k := ?_)
    refine WL.store (v := GOp.val (opVal (opOf n29))) (i := 1) (cs' := #[.int .i64 (n9 : Int), .int .i64 ((opVal (opOf n29)).kind), .int .i64 ((opVal (opOf n29)).task.id), .int .i64 ((opVal (opOf n29)).task.c), .int .i64 ((opVal (opOf n29)).task.d), .int .i64 ((opVal (opOf n29)).task.t), .int .i64 ((opVal (opOf n29)).task.m), .bool ((opVal (opOf n29)).sv), .int .i64 ((opVal (opOf n29)).id), .int .i64 ((opVal (opOf n29)).c), .int .i64 ((opVal (opOf n29)).m), .int .i64 0, .int .i64 0, .int .i64 0, .slice none 0 0]) hb25 (k := fun w39 hb40 k41 => ?_)
    replace hr32 := hr32.keeps k41 n22
    replace hb4 := k41.heap hb4 n23
    replace K := K.trans' k41 (fun i hi e => absurd (e ▸ hi) (Nat.not_lt.2 z21))
    clear hb25
    refine WL.op (d := 5) (.int .i64 (opErr (opOf n29))) (k := ?_)
    refine WL.nil ?_
    refine WX.blockN ?_
    refine WX.seqN ?_
    refine WC.seq ?_
    refine WC.mixed (fun k => k = b1) 13 (k := fun w42 k43 => ?_)
    replace hr32 := hr32.keeps k43 id
    replace hb4 := k43.heap hb4 id
    replace hb40 := k43.heap hb40 id
    replace K := K.trans (k43.any _)
    have KC := Keeps.refl (fun k => k = b1) w42
    have bh44 := hb4
    have bh45 := hb40
    have Kb := K
    refine WA.quietR 0 (d := 60) (.agg #[.int .i64 (n9 : Int), .int .i64 ((opVal (opOf n29)).kind), .int .i64 ((opVal (opOf n29)).task.id), .int .i64 ((opVal (opOf n29)).task.c), .int .i64 ((opVal (opOf n29)).task.d), .int .i64 ((opVal (opOf n29)).task.t), .int .i64 ((opVal (opOf n29)).task.m), .bool ((opVal (opOf n29)).sv), .int .i64 ((opVal (opOf n29)).id), .int .i64 ((opVal (opOf n29)).c), .int .i64 ((opVal (opOf n29)).m), .int .i64 0, .int .i64 0, .int .i64 0, .slice none 0 0]) KC (exec_load (fun w_ k_ => ldN (T := 32) (i := 0) (m := 15) (l := [.int .i64 (n9 : Int), .int .i64 ((opVal (opOf n29)).kind), .int .i64 ((opVal (opOf n29)).task.id), .int .i64 ((opVal (opOf n29)).task.c), .int .i64 ((opVal (opOf n29)).task.d), .int .i64 ((opVal (opOf n29)).task.t), .int .i64 ((opVal (opOf n29)).task.m), .bool ((opVal (opOf n29)).sv), .int .i64 ((opVal (opOf n29)).id), .int .i64 ((opVal (opOf n29)).c), .int .i64 ((opVal (opOf n29)).m), .int .i64 0, .int .i64 0, .int .i64 0, .slice none 0 0]) (k_.heap bh45 (Ne.symm n23)))) (hi := rfl) (k := ?_)
    refine WA.quiet 1 (d := 61) (.pointer (some ⟨b, 0, none⟩)) KC (hi := rfl) (k := ?_)
    refine WA.step 2 (hi := rfl) (k := ?_)
    refine WL.callG (d := 62) (f := 55) (args := #[.pointer (some ⟨b, 0, none⟩)]) (rGood_any _ _ w42 hr32) (k := fun e_ w_ h_ => ⟨.bool s30.isSome, h_.1, ?_⟩)
    obtain ⟨-, rfl⟩ := h_
    refine WL.nil ?_
    refine WX.nxt KC ?_
    refine WA.quiet 3 (d := 63) (.bool s30.isSome) KC (hi := rfl) (k := ?_)
    refine bsplit s30.isSome (fun h46 => ?_) (fun h46 => ?_)
    · refine WA.rw (t := 63) (v := .bool true) (congrArg Value.bool h46) (k := ?_)
      refine WA.quiet 4 (d := 64) (.int .i64 (opErr (opOf n29))) KC (hi := rfl) (k := ?_)
      refine WA.quiet 5 (d := 65) (.bool ((opErr (opOf n29)) == 0)) KC (hi := rfl) (k := ?_)
      refine WA.quiet 6 (d := 66) (.bool ((opErr (opOf n29)) == 0)) KC (hi := rfl) (k := ?_)
      refine WA.quiet 7 (d := 67) (.bool ((opErr (opOf n29)) == 0)) KC (hi := rfl) (k := ?_)
      refine bsplit ((opErr (opOf n29)) == 0) (fun h47 => ?_) (fun h47 => ?_)
      · have ph47 := eq_of_beq h47
        refine WA.rw (t := 67) (v := .bool true) (congrArg Value.bool h47) (k := ?_)
        refine WA.quiet 8 (d := 68) (.pointer (some ⟨b16, 0, none⟩)) KC (hi := rfl) (k := ?_)
        refine WA.quietR 9 (d := 69) (.int .i64 (n9 : Int)) KC (exec_load (fun w_ k_ => ld1 (T := 3) (i := 0) (k_.heap bh45 (Ne.symm n23)))) (hi := rfl) (k := ?_)
        refine WA.quiet 10 (d := 70) (.bool (decide ((n9 : Int) > 0))) KC (hi := rfl) (k := ?_)
        refine WA.quiet 11 (d := 71) (.bool (decide ((n9 : Int) > 0))) KC (hi := rfl) (k := ?_)
        refine WA.step 12 (hi := rfl) (k := ?_)
        refine WL.store (v := .agg #[.int .i64 (n9 : Int), .int .i64 ((opVal (opOf n29)).kind), .int .i64 ((opVal (opOf n29)).task.id), .int .i64 ((opVal (opOf n29)).task.c), .int .i64 ((opVal (opOf n29)).task.d), .int .i64 ((opVal (opOf n29)).task.t), .int .i64 ((opVal (opOf n29)).task.m), .bool ((opVal (opOf n29)).sv), .int .i64 ((opVal (opOf n29)).id), .int .i64 ((opVal (opOf n29)).c), .int .i64 ((opVal (opOf n29)).m), .int .i64 0, .int .i64 0, .int .i64 0, .slice none 0 0]) (i := 0) (cs' := #[.int .i64 (n9 : Int), .int .i64 ((opVal (opOf n29)).kind), .int .i64 ((opVal (opOf n29)).task.id), .int .i64 ((opVal (opOf n29)).task.c), .int .i64 ((opVal (opOf n29)).task.d), .int .i64 ((opVal (opOf n29)).task.t), .int .i64 ((opVal (opOf n29)).task.m), .bool ((opVal (opOf n29)).sv), .int .i64 ((opVal (opOf n29)).id), .int .i64 ((opVal (opOf n29)).c), .int .i64 ((opVal (opOf n29)).m), .int .i64 0, .int .i64 0, .int .i64 0, .slice none 0 0]) hb4 (k := fun w48 hb49 k50 => ?_)
        replace hr32 := hr32.keeps k50 n7
        replace hb40 := k50.heap hb40 (Ne.symm n23)
        replace K := K.trans' k50 (fun i hi e => absurd (e ▸ hi) (Nat.not_lt.2 z6))
        replace KC := KC.trans' k50 (fun i hi e => e)
        clear hb4
        refine WL.nil ?_
        refine WX.nxt KC ?_
        refine WA.step 13 (hi := rfl) (k := ?_)
        refine WL.op (d := 3) (.bool (decide ((n9 : Int) > 0))) (k := ?_)
        refine WL.nil ?_
        refine WX.nxtL ?_
        refine WA.done (k := ?_)
        clear KC
        refine WX.seqN ?_
        refine WC.ret ?_
        refine WX.ret (rs := [.cell 2 32, .tmp 3]) [.agg #[.int .i64 (n9 : Int), .int .i64 ((opVal (opOf n29)).kind), .int .i64 ((opVal (opOf n29)).task.id), .int .i64 ((opVal (opOf n29)).task.c), .int .i64 ((opVal (opOf n29)).task.d), .int .i64 ((opVal (opOf n29)).task.t), .int .i64 ((opVal (opOf n29)).task.m), .bool ((opVal (opOf n29)).sv), .int .i64 ((opVal (opOf n29)).id), .int .i64 ((opVal (opOf n29)).c), .int .i64 ((opVal (opOf n29)).m), .int .i64 0, .int .i64 0, .int .i64 0, .slice none 0 0], .bool (decide ((n9 : Int) > 0))] (.tuple #[.agg #[.int .i64 (n9 : Int), .int .i64 ((opVal (opOf n29)).kind), .int .i64 ((opVal (opOf n29)).task.id), .int .i64 ((opVal (opOf n29)).task.c), .int .i64 ((opVal (opOf n29)).task.d), .int .i64 ((opVal (opOf n29)).task.t), .int .i64 ((opVal (opOf n29)).task.m), .bool ((opVal (opOf n29)).sv), .int .i64 ((opVal (opOf n29)).id), .int .i64 ((opVal (opOf n29)).c), .int .i64 ((opVal (opOf n29)).m), .int .i64 0, .int .i64 0, .int .i64 0, .slice none 0 0], .bool (decide ((n9 : Int) > 0))]) ⟨⟨_, (by kernel_rfl), ldN (T := 32) (i := 0) (m := 15) (l := [.int .i64 (n9 : Int), .int .i64 ((opVal (opOf n29)).kind), .int .i64 ((opVal (opOf n29)).task.id), .int .i64 ((opVal (opOf n29)).task.c), .int .i64 ((opVal (opOf n29)).task.d), .int .i64 ((opVal (opOf n29)).task.t), .int .i64 ((opVal (opOf n29)).task.m), .bool ((opVal (opOf n29)).sv), .int .i64 ((opVal (opOf n29)).id), .int .i64 ((opVal (opOf n29)).c), .int .i64 ((opVal (opOf n29)).m), .int .i64 0, .int .i64 0, .int .i64 0, .slice none 0 0]) hb49⟩, (by kernel_rfl), trivial⟩ (k := ?_)
        exact ⟨(⟨⟨(n9 : Int), (opVal (opOf n29)), 0, 0, 0, []⟩, none, 0⟩ : GCmd), s30, decide ((n9 : Int) > 0), rfl, (ck_1 ph27 q11 q31).iff ⟨fun _ => decide_eq_true (by omega), fun _ => ⟨h46, ph47⟩⟩, OwAt.nil, hr32, K, l34, (by simp [blk])⟩
      · have ph47 := ne_of_beq_false h47
        refine WA.rw (t := 67) (v := .bool false) (congrArg Value.bool h47) (k := ?_)
        refine WA.quietS 8 (d := 68) KC (hi := rfl) (k := ?_)
        refine WA.quietS 9 (d := 69) KC (hi := rfl) (k := ?_)
        refine WA.quietS 10 (d := 70) KC (hi := rfl) (k := ?_)
        refine WA.quiet 11 (d := 71) (.bool false) KC (hi := rfl) (k := ?_)
        refine WA.step 12 (hi := rfl) (k := ?_)
        refine WL.store (v := .agg #[.int .i64 (n9 : Int), .int .i64 ((opVal (opOf n29)).kind), .int .i64 ((opVal (opOf n29)).task.id), .int .i64 ((opVal (opOf n29)).task.c), .int .i64 ((opVal (opOf n29)).task.d), .int .i64 ((opVal (opOf n29)).task.t), .int .i64 ((opVal (opOf n29)).task.m), .bool ((opVal (opOf n29)).sv), .int .i64 ((opVal (opOf n29)).id), .int .i64 ((opVal (opOf n29)).c), .int .i64 ((opVal (opOf n29)).m), .int .i64 0, .int .i64 0, .int .i64 0, .slice none 0 0]) (i := 0) (cs' := #[.int .i64 (n9 : Int), .int .i64 ((opVal (opOf n29)).kind), .int .i64 ((opVal (opOf n29)).task.id), .int .i64 ((opVal (opOf n29)).task.c), .int .i64 ((opVal (opOf n29)).task.d), .int .i64 ((opVal (opOf n29)).task.t), .int .i64 ((opVal (opOf n29)).task.m), .bool ((opVal (opOf n29)).sv), .int .i64 ((opVal (opOf n29)).id), .int .i64 ((opVal (opOf n29)).c), .int .i64 ((opVal (opOf n29)).m), .int .i64 0, .int .i64 0, .int .i64 0, .slice none 0 0]) hb4 (k := fun w51 hb52 k53 => ?_)
        replace hr32 := hr32.keeps k53 n7
        replace hb40 := k53.heap hb40 (Ne.symm n23)
        replace K := K.trans' k53 (fun i hi e => absurd (e ▸ hi) (Nat.not_lt.2 z6))
        replace KC := KC.trans' k53 (fun i hi e => e)
        clear hb4
        refine WL.nil ?_
        refine WX.nxt KC ?_
        refine WA.step 13 (hi := rfl) (k := ?_)
        refine WL.op (d := 3) (.bool false) (k := ?_)
        refine WL.nil ?_
        refine WX.nxtL ?_
        refine WA.done (k := ?_)
        clear KC
        refine WX.seqN ?_
        refine WC.ret ?_
        refine WX.ret (rs := [.cell 2 32, .tmp 3]) [.agg #[.int .i64 (n9 : Int), .int .i64 ((opVal (opOf n29)).kind), .int .i64 ((opVal (opOf n29)).task.id), .int .i64 ((opVal (opOf n29)).task.c), .int .i64 ((opVal (opOf n29)).task.d), .int .i64 ((opVal (opOf n29)).task.t), .int .i64 ((opVal (opOf n29)).task.m), .bool ((opVal (opOf n29)).sv), .int .i64 ((opVal (opOf n29)).id), .int .i64 ((opVal (opOf n29)).c), .int .i64 ((opVal (opOf n29)).m), .int .i64 0, .int .i64 0, .int .i64 0, .slice none 0 0], .bool false] (.tuple #[.agg #[.int .i64 (n9 : Int), .int .i64 ((opVal (opOf n29)).kind), .int .i64 ((opVal (opOf n29)).task.id), .int .i64 ((opVal (opOf n29)).task.c), .int .i64 ((opVal (opOf n29)).task.d), .int .i64 ((opVal (opOf n29)).task.t), .int .i64 ((opVal (opOf n29)).task.m), .bool ((opVal (opOf n29)).sv), .int .i64 ((opVal (opOf n29)).id), .int .i64 ((opVal (opOf n29)).c), .int .i64 ((opVal (opOf n29)).m), .int .i64 0, .int .i64 0, .int .i64 0, .slice none 0 0], .bool false]) ⟨⟨_, (by kernel_rfl), ldN (T := 32) (i := 0) (m := 15) (l := [.int .i64 (n9 : Int), .int .i64 ((opVal (opOf n29)).kind), .int .i64 ((opVal (opOf n29)).task.id), .int .i64 ((opVal (opOf n29)).task.c), .int .i64 ((opVal (opOf n29)).task.d), .int .i64 ((opVal (opOf n29)).task.t), .int .i64 ((opVal (opOf n29)).task.m), .bool ((opVal (opOf n29)).sv), .int .i64 ((opVal (opOf n29)).id), .int .i64 ((opVal (opOf n29)).c), .int .i64 ((opVal (opOf n29)).m), .int .i64 0, .int .i64 0, .int .i64 0, .slice none 0 0]) hb52⟩, (by kernel_rfl), trivial⟩ (k := ?_)
        exact ⟨(⟨⟨(n9 : Int), (opVal (opOf n29)), 0, 0, 0, []⟩, none, 0⟩ : GCmd), s30, false, rfl, (ck_1 ph27 q11 q31).f (fun h => ph47 h.2), OwAt.nil, hr32, K, l34, (by simp [blk])⟩
    · refine WA.rw (t := 63) (v := .bool false) (congrArg Value.bool h46) (k := ?_)
      refine WA.quietS 4 (d := 64) KC (hi := rfl) (k := ?_)
      refine WA.quietS 5 (d := 65) KC (hi := rfl) (k := ?_)
      refine WA.quiet 6 (d := 66) (.bool false) KC (hi := rfl) (k := ?_)
      refine WA.quiet 7 (d := 67) (.bool false) KC (hi := rfl) (k := ?_)
      refine WA.quietS 8 (d := 68) KC (hi := rfl) (k := ?_)
      refine WA.quietS 9 (d := 69) KC (hi := rfl) (k := ?_)
      refine WA.quietS 10 (d := 70) KC (hi := rfl) (k := ?_)
      refine WA.quiet 11 (d := 71) (.bool false) KC (hi := rfl) (k := ?_)
      refine WA.step 12 (hi := rfl) (k := ?_)
      refine WL.store (v := .agg #[.int .i64 (n9 : Int), .int .i64 ((opVal (opOf n29)).kind), .int .i64 ((opVal (opOf n29)).task.id), .int .i64 ((opVal (opOf n29)).task.c), .int .i64 ((opVal (opOf n29)).task.d), .int .i64 ((opVal (opOf n29)).task.t), .int .i64 ((opVal (opOf n29)).task.m), .bool ((opVal (opOf n29)).sv), .int .i64 ((opVal (opOf n29)).id), .int .i64 ((opVal (opOf n29)).c), .int .i64 ((opVal (opOf n29)).m), .int .i64 0, .int .i64 0, .int .i64 0, .slice none 0 0]) (i := 0) (cs' := #[.int .i64 (n9 : Int), .int .i64 ((opVal (opOf n29)).kind), .int .i64 ((opVal (opOf n29)).task.id), .int .i64 ((opVal (opOf n29)).task.c), .int .i64 ((opVal (opOf n29)).task.d), .int .i64 ((opVal (opOf n29)).task.t), .int .i64 ((opVal (opOf n29)).task.m), .bool ((opVal (opOf n29)).sv), .int .i64 ((opVal (opOf n29)).id), .int .i64 ((opVal (opOf n29)).c), .int .i64 ((opVal (opOf n29)).m), .int .i64 0, .int .i64 0, .int .i64 0, .slice none 0 0]) hb4 (k := fun w54 hb55 k56 => ?_)
      replace hr32 := hr32.keeps k56 n7
      replace hb40 := k56.heap hb40 (Ne.symm n23)
      replace K := K.trans' k56 (fun i hi e => absurd (e ▸ hi) (Nat.not_lt.2 z6))
      replace KC := KC.trans' k56 (fun i hi e => e)
      clear hb4
      refine WL.nil ?_
      refine WX.nxt KC ?_
      refine WA.step 13 (hi := rfl) (k := ?_)
      refine WL.op (d := 3) (.bool false) (k := ?_)
      refine WL.nil ?_
      refine WX.nxtL ?_
      refine WA.done (k := ?_)
      clear KC
      refine WX.seqN ?_
      refine WC.ret ?_
      refine WX.ret (rs := [.cell 2 32, .tmp 3]) [.agg #[.int .i64 (n9 : Int), .int .i64 ((opVal (opOf n29)).kind), .int .i64 ((opVal (opOf n29)).task.id), .int .i64 ((opVal (opOf n29)).task.c), .int .i64 ((opVal (opOf n29)).task.d), .int .i64 ((opVal (opOf n29)).task.t), .int .i64 ((opVal (opOf n29)).task.m), .bool ((opVal (opOf n29)).sv), .int .i64 ((opVal (opOf n29)).id), .int .i64 ((opVal (opOf n29)).c), .int .i64 ((opVal (opOf n29)).m), .int .i64 0, .int .i64 0, .int .i64 0, .slice none 0 0], .bool false] (.tuple #[.agg #[.int .i64 (n9 : Int), .int .i64 ((opVal (opOf n29)).kind), .int .i64 ((opVal (opOf n29)).task.id), .int .i64 ((opVal (opOf n29)).task.c), .int .i64 ((opVal (opOf n29)).task.d), .int .i64 ((opVal (opOf n29)).task.t), .int .i64 ((opVal (opOf n29)).task.m), .bool ((opVal (opOf n29)).sv), .int .i64 ((opVal (opOf n29)).id), .int .i64 ((opVal (opOf n29)).c), .int .i64 ((opVal (opOf n29)).m), .int .i64 0, .int .i64 0, .int .i64 0, .slice none 0 0], .bool false]) ⟨⟨_, (by kernel_rfl), ldN (T := 32) (i := 0) (m := 15) (l := [.int .i64 (n9 : Int), .int .i64 ((opVal (opOf n29)).kind), .int .i64 ((opVal (opOf n29)).task.id), .int .i64 ((opVal (opOf n29)).task.c), .int .i64 ((opVal (opOf n29)).task.d), .int .i64 ((opVal (opOf n29)).task.t), .int .i64 ((opVal (opOf n29)).task.m), .bool ((opVal (opOf n29)).sv), .int .i64 ((opVal (opOf n29)).id), .int .i64 ((opVal (opOf n29)).c), .int .i64 ((opVal (opOf n29)).m), .int .i64 0, .int .i64 0, .int .i64 0, .slice none 0 0]) hb55⟩, (by kernel_rfl), trivial⟩ (k := ?_)
      exact ⟨(⟨⟨(n9 : Int), (opVal (opOf n29)), 0, 0, 0, []⟩, none, 0⟩ : GCmd), s30, false, rfl, (ck_1 ph27 q11 q31).f (by simp [h46]), OwAt.nil, hr32, K, l34, (by simp [blk])⟩
  · have ph27 := ne_of_beq_false h27
    refine WC.seq ?_
    refine WC.seq ?_
    refine WC.region ?_
    refine WL.op (d := 22) (.bool ((n9 : Int) == 2)) (k := ?_)
    refine WL.op (d := 21) (.bool ((n9 : Int) == 2)) (k := ?_)
    refine WL.nil ?_
    refine WX.seqN ?_
    refine WC.cond (b := (n9 : Int) == 2) (ht := fun h57 => ?_) (hf := fun h57 => ?_)
    · have ph57 := eq_of_beq h57
      refine WC.skip ?_
      refine WX.seqN ?_
      refine WC.rw (t := 21) (v := .bool true) (congrArg Value.bool h57) (k := ?_)
      refine WC.condT (k := ?_)
      refine WC.seq ?_
      refine WC.region ?_
      refine WL.op (d := 24) (.pointer (some ⟨b, 0, none⟩)) (k := ?_)
      refine WL.callG (d := 25) (f := 51) (args := #[.pointer (some ⟨b, 0, none⟩), .int .i64 1023]) (rInt_x 1023 hr12 l14 (by omega) (by omega)) (k := fun e_ w58 h_ => ?_)
      obtain ⟨n59, s60, q61, rfl, hr62, k63, l64, m65⟩ := h_
      refine ⟨_, rfl, ?_⟩
      replace hb4 := k63.heap hb4 (Ne.symm n7)
      replace hb25 := k63.heap hb25 (Ne.symm n22)
      replace K := K.trans' k63 (fun i hi e => e)
      clear hr12
      refine WL.op (d := 26) (.pointer (some ⟨b16, 11, none⟩)) (k := ?_)
      refine WL.store (v := .int .i64 (n59 : Int)) (i := 11) (cs' := #[.int .i64 (n9 : Int), .int .i64 0, .int .i64 0, .int .i64 0, .int .i64 0, .int .i64 0, .int .i64 0, .bool false, .int .i64 0, .int .i64 0, .int .i64 0, .int .i64 (n59 : Int), .int .i64 0, .int .i64 0, .slice none 0 0]) hb25 (k := fun w66 hb67 k68 => ?_)
      replace hr62 := hr62.keeps k68 n22
      replace hb4 := k68.heap hb4 n23
      replace K := K.trans' k68 (fun i hi e => absurd (e ▸ hi) (Nat.not_lt.2 z21))
      clear hb25
      refine WL.nil ?_
      refine WX.seqN ?_
      refine WC.region ?_
      refine WL.op (d := 27) (.pointer (some ⟨b, 0, none⟩)) (k := ?_)
      refine WL.callG (d := 28) (f := 54) (args := #[.pointer (some ⟨b, 0, none⟩), .int .u64 2147483648]) (rNum_x 2147483648 hr62 l64 (by omega) (by omega)) (k := fun e_ w69 h_ => ?_)
      obtain ⟨n70, s71, q72, rfl, hr73, k74, l75, m76⟩ := h_
      refine ⟨_, rfl, ?_⟩
      replace hb4 := k74.heap hb4 (Ne.symm n7)
      replace hb67 := k74.heap hb67 (Ne.symm n22)
      replace K := K.trans' k74 (fun i hi e => e)
      clear hr62
      refine WL.opE (d := 29) (.int .i64 (IntKind.i64.wrap (n70 : Int))) (v := .int .i64 (n70 : Int)) (congrArg (Value.int .i64) (IntWalk.i64_in _ (by omega))) (k := ?_)
      refine WL.op (d := 30) (.pointer (some ⟨b16, 12, none⟩)) (k := ?_)
      refine WL.store (v := .int .i64 (n70 : Int)) (i := 12) (cs' := #[.int .i64 (n9 : Int), .int .i64 0, .int .i64 0, .int .i64 0, .int .i64 0, .int .i64 0, .int .i64 0, .bool false, .int .i64 0, .int .i64 0, .int .i64 0, .int .i64 (n59 : Int), .int .i64 (n70 : Int), .int .i64 0, .slice none 0 0]) hb67 (k := fun w77 hb78 k79 => ?_)
      replace hr73 := hr73.keeps k79 n22
      replace hb4 := k79.heap hb4 n23
      replace K := K.trans' k79 (fun i hi e => absurd (e ▸ hi) (Nat.not_lt.2 z21))
      clear hb67
      refine WL.nil ?_
      refine WX.blockN ?_
      refine WX.seqN ?_
      refine WC.seq ?_
      refine WC.mixed (fun k => k = b1) 13 (k := fun w80 k81 => ?_)
      replace hr73 := hr73.keeps k81 id
      replace hb4 := k81.heap hb4 id
      replace hb78 := k81.heap hb78 id
      replace K := K.trans (k81.any _)
      have KC := Keeps.refl (fun k => k = b1) w80
      have bh82 := hb4
      have bh83 := hb78
      have Kb := K
      refine WA.quietR 0 (d := 60) (.agg #[.int .i64 (n9 : Int), .int .i64 0, .int .i64 0, .int .i64 0, .int .i64 0, .int .i64 0, .int .i64 0, .bool false, .int .i64 0, .int .i64 0, .int .i64 0, .int .i64 (n59 : Int), .int .i64 (n70 : Int), .int .i64 0, .slice none 0 0]) KC (exec_load (fun w_ k_ => ldN (T := 32) (i := 0) (m := 15) (l := [.int .i64 (n9 : Int), .int .i64 0, .int .i64 0, .int .i64 0, .int .i64 0, .int .i64 0, .int .i64 0, .bool false, .int .i64 0, .int .i64 0, .int .i64 0, .int .i64 (n59 : Int), .int .i64 (n70 : Int), .int .i64 0, .slice none 0 0]) (k_.heap bh83 (Ne.symm n23)))) (hi := rfl) (k := ?_)
      refine WA.quiet 1 (d := 61) (.pointer (some ⟨b, 0, none⟩)) KC (hi := rfl) (k := ?_)
      refine WA.step 2 (hi := rfl) (k := ?_)
      refine WL.callG (d := 62) (f := 55) (args := #[.pointer (some ⟨b, 0, none⟩)]) (rGood_any _ _ w80 hr73) (k := fun e_ w_ h_ => ⟨.bool s71.isSome, h_.1, ?_⟩)
      obtain ⟨-, rfl⟩ := h_
      refine WL.nil ?_
      refine WX.nxt KC ?_
      refine WA.quiet 3 (d := 63) (.bool s71.isSome) KC (hi := rfl) (k := ?_)
      refine bsplit s71.isSome (fun h84 => ?_) (fun h84 => ?_)
      · refine WA.rw (t := 63) (v := .bool true) (congrArg Value.bool h84) (k := ?_)
        refine WA.quiet 4 (d := 64) (.int .i64 0) KC (hi := rfl) (k := ?_)
        refine WA.quiet 5 (d := 65) (.bool true) KC (hi := rfl) (k := ?_)
        refine WA.quiet 6 (d := 66) (.bool true) KC (hi := rfl) (k := ?_)
        refine WA.quiet 7 (d := 67) (.bool true) KC (hi := rfl) (k := ?_)
        refine WA.quiet 8 (d := 68) (.pointer (some ⟨b16, 0, none⟩)) KC (hi := rfl) (k := ?_)
        refine WA.quietR 9 (d := 69) (.int .i64 (n9 : Int)) KC (exec_load (fun w_ k_ => ld1 (T := 3) (i := 0) (k_.heap bh83 (Ne.symm n23)))) (hi := rfl) (k := ?_)
        refine WA.quiet 10 (d := 70) (.bool (decide ((n9 : Int) > 0))) KC (hi := rfl) (k := ?_)
        refine WA.quiet 11 (d := 71) (.bool (decide ((n9 : Int) > 0))) KC (hi := rfl) (k := ?_)
        refine WA.step 12 (hi := rfl) (k := ?_)
        refine WL.store (v := .agg #[.int .i64 (n9 : Int), .int .i64 0, .int .i64 0, .int .i64 0, .int .i64 0, .int .i64 0, .int .i64 0, .bool false, .int .i64 0, .int .i64 0, .int .i64 0, .int .i64 (n59 : Int), .int .i64 (n70 : Int), .int .i64 0, .slice none 0 0]) (i := 0) (cs' := #[.int .i64 (n9 : Int), .int .i64 0, .int .i64 0, .int .i64 0, .int .i64 0, .int .i64 0, .int .i64 0, .bool false, .int .i64 0, .int .i64 0, .int .i64 0, .int .i64 (n59 : Int), .int .i64 (n70 : Int), .int .i64 0, .slice none 0 0]) hb4 (k := fun w85 hb86 k87 => ?_)
        replace hr73 := hr73.keeps k87 n7
        replace hb78 := k87.heap hb78 (Ne.symm n23)
        replace K := K.trans' k87 (fun i hi e => absurd (e ▸ hi) (Nat.not_lt.2 z6))
        replace KC := KC.trans' k87 (fun i hi e => e)
        clear hb4
        refine WL.nil ?_
        refine WX.nxt KC ?_
        refine WA.step 13 (hi := rfl) (k := ?_)
        refine WL.op (d := 3) (.bool (decide ((n9 : Int) > 0))) (k := ?_)
        refine WL.nil ?_
        refine WX.nxtL ?_
        refine WA.done (k := ?_)
        clear KC
        refine WX.seqN ?_
        refine WC.ret ?_
        refine WX.ret (rs := [.cell 2 32, .tmp 3]) [.agg #[.int .i64 (n9 : Int), .int .i64 0, .int .i64 0, .int .i64 0, .int .i64 0, .int .i64 0, .int .i64 0, .bool false, .int .i64 0, .int .i64 0, .int .i64 0, .int .i64 (n59 : Int), .int .i64 (n70 : Int), .int .i64 0, .slice none 0 0], .bool (decide ((n9 : Int) > 0))] (.tuple #[.agg #[.int .i64 (n9 : Int), .int .i64 0, .int .i64 0, .int .i64 0, .int .i64 0, .int .i64 0, .int .i64 0, .bool false, .int .i64 0, .int .i64 0, .int .i64 0, .int .i64 (n59 : Int), .int .i64 (n70 : Int), .int .i64 0, .slice none 0 0], .bool (decide ((n9 : Int) > 0))]) ⟨⟨_, (by kernel_rfl), ldN (T := 32) (i := 0) (m := 15) (l := [.int .i64 (n9 : Int), .int .i64 0, .int .i64 0, .int .i64 0, .int .i64 0, .int .i64 0, .int .i64 0, .bool false, .int .i64 0, .int .i64 0, .int .i64 0, .int .i64 (n59 : Int), .int .i64 (n70 : Int), .int .i64 0, .slice none 0 0]) hb86⟩, (by kernel_rfl), trivial⟩ (k := ?_)
        exact ⟨(⟨⟨(n9 : Int), (⟨0, ⟨0, 0, 0, 0, 0⟩, false, 0, 0, 0⟩ : GOp), (n59 : Int), (n70 : Int), 0, []⟩, none, 0⟩ : GCmd), s71, decide ((n9 : Int) > 0), rfl, (ck_2 (.inl ph57) q11 q61 q72).iff ⟨fun _ => decide_eq_true (by omega), fun _ => h84⟩, OwAt.nil, hr73, K, l75, (by simp [blk])⟩
      · refine WA.rw (t := 63) (v := .bool false) (congrArg Value.bool h84) (k := ?_)
        refine WA.quietS 4 (d := 64) KC (hi := rfl) (k := ?_)
        refine WA.quietS 5 (d := 65) KC (hi := rfl) (k := ?_)
        refine WA.quiet 6 (d := 66) (.bool false) KC (hi := rfl) (k := ?_)
        refine WA.quiet 7 (d := 67) (.bool false) KC (hi := rfl) (k := ?_)
        refine WA.quietS 8 (d := 68) KC (hi := rfl) (k := ?_)
        refine WA.quietS 9 (d := 69) KC (hi := rfl) (k := ?_)
        refine WA.quietS 10 (d := 70) KC (hi := rfl) (k := ?_)
        refine WA.quiet 11 (d := 71) (.bool false) KC (hi := rfl) (k := ?_)
        refine WA.step 12 (hi := rfl) (k := ?_)
        refine WL.store (v := .agg #[.int .i64 (n9 : Int), .int .i64 0, .int .i64 0, .int .i64 0, .int .i64 0, .int .i64 0, .int .i64 0, .bool false, .int .i64 0, .int .i64 0, .int .i64 0, .int .i64 (n59 : Int), .int .i64 (n70 : Int), .int .i64 0, .slice none 0 0]) (i := 0) (cs' := #[.int .i64 (n9 : Int), .int .i64 0, .int .i64 0, .int .i64 0, .int .i64 0, .int .i64 0, .int .i64 0, .bool false, .int .i64 0, .int .i64 0, .int .i64 0, .int .i64 (n59 : Int), .int .i64 (n70 : Int), .int .i64 0, .slice none 0 0]) hb4 (k := fun w88 hb89 k90 => ?_)
        replace hr73 := hr73.keeps k90 n7
        replace hb78 := k90.heap hb78 (Ne.symm n23)
        replace K := K.trans' k90 (fun i hi e => absurd (e ▸ hi) (Nat.not_lt.2 z6))
        replace KC := KC.trans' k90 (fun i hi e => e)
        clear hb4
        refine WL.nil ?_
        refine WX.nxt KC ?_
        refine WA.step 13 (hi := rfl) (k := ?_)
        refine WL.op (d := 3) (.bool false) (k := ?_)
        refine WL.nil ?_
        refine WX.nxtL ?_
        refine WA.done (k := ?_)
        clear KC
        refine WX.seqN ?_
        refine WC.ret ?_
        refine WX.ret (rs := [.cell 2 32, .tmp 3]) [.agg #[.int .i64 (n9 : Int), .int .i64 0, .int .i64 0, .int .i64 0, .int .i64 0, .int .i64 0, .int .i64 0, .bool false, .int .i64 0, .int .i64 0, .int .i64 0, .int .i64 (n59 : Int), .int .i64 (n70 : Int), .int .i64 0, .slice none 0 0], .bool false] (.tuple #[.agg #[.int .i64 (n9 : Int), .int .i64 0, .int .i64 0, .int .i64 0, .int .i64 0, .int .i64 0, .int .i64 0, .bool false, .int .i64 0, .int .i64 0, .int .i64 0, .int .i64 (n59 : Int), .int .i64 (n70 : Int), .int .i64 0, .slice none 0 0], .bool false]) ⟨⟨_, (by kernel_rfl), ldN (T := 32) (i := 0) (m := 15) (l := [.int .i64 (n9 : Int), .int .i64 0, .int .i64 0, .int .i64 0, .int .i64 0, .int .i64 0, .int .i64 0, .bool false, .int .i64 0, .int .i64 0, .int .i64 0, .int .i64 (n59 : Int), .int .i64 (n70 : Int), .int .i64 0, .slice none 0 0]) hb89⟩, (by kernel_rfl), trivial⟩ (k := ?_)
        exact ⟨(⟨⟨(n9 : Int), (⟨0, ⟨0, 0, 0, 0, 0⟩, false, 0, 0, 0⟩ : GOp), (n59 : Int), (n70 : Int), 0, []⟩, none, 0⟩ : GCmd), s71, false, rfl, (ck_2 (.inl ph57) q11 q61 q72).f (by simp [h84]), OwAt.nil, hr73, K, l75, (by simp [blk])⟩
    · have ph57 := ne_of_beq_false h57
      refine WC.region ?_
      refine WL.op (d := 23) (.bool ((n9 : Int) == 3)) (k := ?_)
      refine WL.op (d := 21) (.bool ((n9 : Int) == 3)) (k := ?_)
      refine WL.nil ?_
      refine WX.seqN ?_
      refine WC.cond (b := (n9 : Int) == 3) (ht := fun h91 => ?_) (hf := fun h91 => ?_)
      · have ph91 := eq_of_beq h91
        refine WC.seq ?_
        refine WC.region ?_
        refine WL.op (d := 24) (.pointer (some ⟨b, 0, none⟩)) (k := ?_)
        refine WL.callG (d := 25) (f := 51) (args := #[.pointer (some ⟨b, 0, none⟩), .int .i64 1023]) (rInt_x 1023 hr12 l14 (by omega) (by omega)) (k := fun e_ w92 h_ => ?_)
        obtain ⟨n93, s94, q95, rfl, hr96, k97, l98, m99⟩ := h_
        refine ⟨_, rfl, ?_⟩
        replace hb4 := k97.heap hb4 (Ne.symm n7)
        replace hb25 := k97.heap hb25 (Ne.symm n22)
        replace K := K.trans' k97 (fun i hi e => e)
        clear hr12
        refine WL.op (d := 26) (.pointer (some ⟨b16, 11, none⟩)) (k := ?_)
        refine WL.store (v := .int .i64 (n93 : Int)) (i := 11) (cs' := #[.int .i64 (n9 : Int), .int .i64 0, .int .i64 0, .int .i64 0, .int .i64 0, .int .i64 0, .int .i64 0, .bool false, .int .i64 0, .int .i64 0, .int .i64 0, .int .i64 (n93 : Int), .int .i64 0, .int .i64 0, .slice none 0 0]) hb25 (k := fun w100 hb101 k102 => ?_)
        replace hr96 := hr96.keeps k102 n22
        replace hb4 := k102.heap hb4 n23
        replace K := K.trans' k102 (fun i hi e => absurd (e ▸ hi) (Nat.not_lt.2 z21))
        clear hb25
        refine WL.nil ?_
        refine WX.seqN ?_
        refine WC.region ?_
        refine WL.op (d := 27) (.pointer (some ⟨b, 0, none⟩)) (k := ?_)
        refine WL.callG (d := 28) (f := 54) (args := #[.pointer (some ⟨b, 0, none⟩), .int .u64 2147483648]) (rNum_x 2147483648 hr96 l98 (by omega) (by omega)) (k := fun e_ w103 h_ => ?_)
        obtain ⟨n104, s105, q106, rfl, hr107, k108, l109, m110⟩ := h_
        refine ⟨_, rfl, ?_⟩
        replace hb4 := k108.heap hb4 (Ne.symm n7)
        replace hb101 := k108.heap hb101 (Ne.symm n22)
        replace K := K.trans' k108 (fun i hi e => e)
        clear hr96
        refine WL.opE (d := 29) (.int .i64 (IntKind.i64.wrap (n104 : Int))) (v := .int .i64 (n104 : Int)) (congrArg (Value.int .i64) (IntWalk.i64_in _ (by omega))) (k := ?_)
        refine WL.op (d := 30) (.pointer (some ⟨b16, 12, none⟩)) (k := ?_)
        refine WL.store (v := .int .i64 (n104 : Int)) (i := 12) (cs' := #[.int .i64 (n9 : Int), .int .i64 0, .int .i64 0, .int .i64 0, .int .i64 0, .int .i64 0, .int .i64 0, .bool false, .int .i64 0, .int .i64 0, .int .i64 0, .int .i64 (n93 : Int), .int .i64 (n104 : Int), .int .i64 0, .slice none 0 0]) hb101 (k := fun w111 hb112 k113 => ?_)
        replace hr107 := hr107.keeps k113 n22
        replace hb4 := k113.heap hb4 n23
        replace K := K.trans' k113 (fun i hi e => absurd (e ▸ hi) (Nat.not_lt.2 z21))
        clear hb101
        refine WL.nil ?_
        refine WX.blockN ?_
        refine WX.seqN ?_
        refine WC.seq ?_
        refine WC.mixed (fun k => k = b1) 13 (k := fun w114 k115 => ?_)
        replace hr107 := hr107.keeps k115 id
        replace hb4 := k115.heap hb4 id
        replace hb112 := k115.heap hb112 id
        replace K := K.trans (k115.any _)
        have KC := Keeps.refl (fun k => k = b1) w114
        have bh116 := hb4
        have bh117 := hb112
        have Kb := K
        refine WA.quietR 0 (d := 60) (.agg #[.int .i64 (n9 : Int), .int .i64 0, .int .i64 0, .int .i64 0, .int .i64 0, .int .i64 0, .int .i64 0, .bool false, .int .i64 0, .int .i64 0, .int .i64 0, .int .i64 (n93 : Int), .int .i64 (n104 : Int), .int .i64 0, .slice none 0 0]) KC (exec_load (fun w_ k_ => ldN (T := 32) (i := 0) (m := 15) (l := [.int .i64 (n9 : Int), .int .i64 0, .int .i64 0, .int .i64 0, .int .i64 0, .int .i64 0, .int .i64 0, .bool false, .int .i64 0, .int .i64 0, .int .i64 0, .int .i64 (n93 : Int), .int .i64 (n104 : Int), .int .i64 0, .slice none 0 0]) (k_.heap bh117 (Ne.symm n23)))) (hi := rfl) (k := ?_)
        refine WA.quiet 1 (d := 61) (.pointer (some ⟨b, 0, none⟩)) KC (hi := rfl) (k := ?_)
        refine WA.step 2 (hi := rfl) (k := ?_)
        refine WL.callG (d := 62) (f := 55) (args := #[.pointer (some ⟨b, 0, none⟩)]) (rGood_any _ _ w114 hr107) (k := fun e_ w_ h_ => ⟨.bool s105.isSome, h_.1, ?_⟩)
        obtain ⟨-, rfl⟩ := h_
        refine WL.nil ?_
        refine WX.nxt KC ?_
        refine WA.quiet 3 (d := 63) (.bool s105.isSome) KC (hi := rfl) (k := ?_)
        refine bsplit s105.isSome (fun h118 => ?_) (fun h118 => ?_)
        · refine WA.rw (t := 63) (v := .bool true) (congrArg Value.bool h118) (k := ?_)
          refine WA.quiet 4 (d := 64) (.int .i64 0) KC (hi := rfl) (k := ?_)
          refine WA.quiet 5 (d := 65) (.bool true) KC (hi := rfl) (k := ?_)
          refine WA.quiet 6 (d := 66) (.bool true) KC (hi := rfl) (k := ?_)
          refine WA.quiet 7 (d := 67) (.bool true) KC (hi := rfl) (k := ?_)
          refine WA.quiet 8 (d := 68) (.pointer (some ⟨b16, 0, none⟩)) KC (hi := rfl) (k := ?_)
          refine WA.quietR 9 (d := 69) (.int .i64 (n9 : Int)) KC (exec_load (fun w_ k_ => ld1 (T := 3) (i := 0) (k_.heap bh117 (Ne.symm n23)))) (hi := rfl) (k := ?_)
          refine WA.quiet 10 (d := 70) (.bool (decide ((n9 : Int) > 0))) KC (hi := rfl) (k := ?_)
          refine WA.quiet 11 (d := 71) (.bool (decide ((n9 : Int) > 0))) KC (hi := rfl) (k := ?_)
          refine WA.step 12 (hi := rfl) (k := ?_)
          refine WL.store (v := .agg #[.int .i64 (n9 : Int), .int .i64 0, .int .i64 0, .int .i64 0, .int .i64 0, .int .i64 0, .int .i64 0, .bool false, .int .i64 0, .int .i64 0, .int .i64 0, .int .i64 (n93 : Int), .int .i64 (n104 : Int), .int .i64 0, .slice none 0 0]) (i := 0) (cs' := #[.int .i64 (n9 : Int), .int .i64 0, .int .i64 0, .int .i64 0, .int .i64 0, .int .i64 0, .int .i64 0, .bool false, .int .i64 0, .int .i64 0, .int .i64 0, .int .i64 (n93 : Int), .int .i64 (n104 : Int), .int .i64 0, .slice none 0 0]) hb4 (k := fun w119 hb120 k121 => ?_)
          replace hr107 := hr107.keeps k121 n7
          replace hb112 := k121.heap hb112 (Ne.symm n23)
          replace K := K.trans' k121 (fun i hi e => absurd (e ▸ hi) (Nat.not_lt.2 z6))
          replace KC := KC.trans' k121 (fun i hi e => e)
          clear hb4
          refine WL.nil ?_
          refine WX.nxt KC ?_
          refine WA.step 13 (hi := rfl) (k := ?_)
          refine WL.op (d := 3) (.bool (decide ((n9 : Int) > 0))) (k := ?_)
          refine WL.nil ?_
          refine WX.nxtL ?_
          refine WA.done (k := ?_)
          clear KC
          refine WX.seqN ?_
          refine WC.ret ?_
          refine WX.ret (rs := [.cell 2 32, .tmp 3]) [.agg #[.int .i64 (n9 : Int), .int .i64 0, .int .i64 0, .int .i64 0, .int .i64 0, .int .i64 0, .int .i64 0, .bool false, .int .i64 0, .int .i64 0, .int .i64 0, .int .i64 (n93 : Int), .int .i64 (n104 : Int), .int .i64 0, .slice none 0 0], .bool (decide ((n9 : Int) > 0))] (.tuple #[.agg #[.int .i64 (n9 : Int), .int .i64 0, .int .i64 0, .int .i64 0, .int .i64 0, .int .i64 0, .int .i64 0, .bool false, .int .i64 0, .int .i64 0, .int .i64 0, .int .i64 (n93 : Int), .int .i64 (n104 : Int), .int .i64 0, .slice none 0 0], .bool (decide ((n9 : Int) > 0))]) ⟨⟨_, (by kernel_rfl), ldN (T := 32) (i := 0) (m := 15) (l := [.int .i64 (n9 : Int), .int .i64 0, .int .i64 0, .int .i64 0, .int .i64 0, .int .i64 0, .int .i64 0, .bool false, .int .i64 0, .int .i64 0, .int .i64 0, .int .i64 (n93 : Int), .int .i64 (n104 : Int), .int .i64 0, .slice none 0 0]) hb120⟩, (by kernel_rfl), trivial⟩ (k := ?_)
          exact ⟨(⟨⟨(n9 : Int), (⟨0, ⟨0, 0, 0, 0, 0⟩, false, 0, 0, 0⟩ : GOp), (n93 : Int), (n104 : Int), 0, []⟩, none, 0⟩ : GCmd), s105, decide ((n9 : Int) > 0), rfl, (ck_2 (.inr ph91) q11 q95 q106).iff ⟨fun _ => decide_eq_true (by omega), fun _ => h118⟩, OwAt.nil, hr107, K, l109, (by simp [blk])⟩
        · refine WA.rw (t := 63) (v := .bool false) (congrArg Value.bool h118) (k := ?_)
          refine WA.quietS 4 (d := 64) KC (hi := rfl) (k := ?_)
          refine WA.quietS 5 (d := 65) KC (hi := rfl) (k := ?_)
          refine WA.quiet 6 (d := 66) (.bool false) KC (hi := rfl) (k := ?_)
          refine WA.quiet 7 (d := 67) (.bool false) KC (hi := rfl) (k := ?_)
          refine WA.quietS 8 (d := 68) KC (hi := rfl) (k := ?_)
          refine WA.quietS 9 (d := 69) KC (hi := rfl) (k := ?_)
          refine WA.quietS 10 (d := 70) KC (hi := rfl) (k := ?_)
          refine WA.quiet 11 (d := 71) (.bool false) KC (hi := rfl) (k := ?_)
          refine WA.step 12 (hi := rfl) (k := ?_)
          refine WL.store (v := .agg #[.int .i64 (n9 : Int), .int .i64 0, .int .i64 0, .int .i64 0, .int .i64 0, .int .i64 0, .int .i64 0, .bool false, .int .i64 0, .int .i64 0, .int .i64 0, .int .i64 (n93 : Int), .int .i64 (n104 : Int), .int .i64 0, .slice none 0 0]) (i := 0) (cs' := #[.int .i64 (n9 : Int), .int .i64 0, .int .i64 0, .int .i64 0, .int .i64 0, .int .i64 0, .int .i64 0, .bool false, .int .i64 0, .int .i64 0, .int .i64 0, .int .i64 (n93 : Int), .int .i64 (n104 : Int), .int .i64 0, .slice none 0 0]) hb4 (k := fun w122 hb123 k124 => ?_)
          replace hr107 := hr107.keeps k124 n7
          replace hb112 := k124.heap hb112 (Ne.symm n23)
          replace K := K.trans' k124 (fun i hi e => absurd (e ▸ hi) (Nat.not_lt.2 z6))
          replace KC := KC.trans' k124 (fun i hi e => e)
          clear hb4
          refine WL.nil ?_
          refine WX.nxt KC ?_
          refine WA.step 13 (hi := rfl) (k := ?_)
          refine WL.op (d := 3) (.bool false) (k := ?_)
          refine WL.nil ?_
          refine WX.nxtL ?_
          refine WA.done (k := ?_)
          clear KC
          refine WX.seqN ?_
          refine WC.ret ?_
          refine WX.ret (rs := [.cell 2 32, .tmp 3]) [.agg #[.int .i64 (n9 : Int), .int .i64 0, .int .i64 0, .int .i64 0, .int .i64 0, .int .i64 0, .int .i64 0, .bool false, .int .i64 0, .int .i64 0, .int .i64 0, .int .i64 (n93 : Int), .int .i64 (n104 : Int), .int .i64 0, .slice none 0 0], .bool false] (.tuple #[.agg #[.int .i64 (n9 : Int), .int .i64 0, .int .i64 0, .int .i64 0, .int .i64 0, .int .i64 0, .int .i64 0, .bool false, .int .i64 0, .int .i64 0, .int .i64 0, .int .i64 (n93 : Int), .int .i64 (n104 : Int), .int .i64 0, .slice none 0 0], .bool false]) ⟨⟨_, (by kernel_rfl), ldN (T := 32) (i := 0) (m := 15) (l := [.int .i64 (n9 : Int), .int .i64 0, .int .i64 0, .int .i64 0, .int .i64 0, .int .i64 0, .int .i64 0, .bool false, .int .i64 0, .int .i64 0, .int .i64 0, .int .i64 (n93 : Int), .int .i64 (n104 : Int), .int .i64 0, .slice none 0 0]) hb123⟩, (by kernel_rfl), trivial⟩ (k := ?_)
          exact ⟨(⟨⟨(n9 : Int), (⟨0, ⟨0, 0, 0, 0, 0⟩, false, 0, 0, 0⟩ : GOp), (n93 : Int), (n104 : Int), 0, []⟩, none, 0⟩ : GCmd), s105, false, rfl, (ck_2 (.inr ph91) q11 q95 q106).f (by simp [h118]), OwAt.nil, hr107, K, l109, (by simp [blk])⟩
      · have ph91 := ne_of_beq_false h91
        refine WC.seq ?_
        refine WC.seq ?_
        refine WC.region ?_
        refine WL.op (d := 32) (.bool ((n9 : Int) == 4)) (k := ?_)
        refine WL.op (d := 31) (.bool ((n9 : Int) == 4)) (k := ?_)
        refine WL.nil ?_
        refine WX.seqN ?_
        refine WC.cond (b := (n9 : Int) == 4) (ht := fun h125 => ?_) (hf := fun h125 => ?_)
        · have ph125 := eq_of_beq h125
          refine WC.skip ?_
          refine WX.seqN ?_
          refine WC.rw (t := 31) (v := .bool true) (congrArg Value.bool h125) (k := ?_)
          refine WC.condT (k := ?_)
          refine WC.region ?_
          refine WL.op (d := 34) (.pointer (some ⟨b, 0, none⟩)) (k := ?_)
          refine WL.callG (d := 35) (f := 51) (args := #[.pointer (some ⟨b, 0, none⟩), .int .i64 1048576]) (rInt_x 1048576 hr12 l14 (by omega) (by omega)) (k := fun e_ w126 h_ => ?_)
          obtain ⟨n127, s128, q129, rfl, hr130, k131, l132, m133⟩ := h_
          refine ⟨_, rfl, ?_⟩
          replace hb4 := k131.heap hb4 (Ne.symm n7)
          replace hb25 := k131.heap hb25 (Ne.symm n22)
          replace K := K.trans' k131 (fun i hi e => e)
          clear hr12
          refine WL.op (d := 36) (.pointer (some ⟨b16, 13, none⟩)) (k := ?_)
          refine WL.store (v := .int .i64 (n127 : Int)) (i := 13) (cs' := #[.int .i64 (n9 : Int), .int .i64 0, .int .i64 0, .int .i64 0, .int .i64 0, .int .i64 0, .int .i64 0, .bool false, .int .i64 0, .int .i64 0, .int .i64 0, .int .i64 0, .int .i64 0, .int .i64 (n127 : Int), .slice none 0 0]) hb25 (k := fun w134 hb135 k136 => ?_)
          replace hr130 := hr130.keeps k136 n22
          replace hb4 := k136.heap hb4 n23
          replace K := K.trans' k136 (fun i hi e => absurd (e ▸ hi) (Nat.not_lt.2 z21))
          clear hb25
          refine WL.nil ?_
          refine WX.blockN ?_
          refine WX.seqN ?_
          refine WC.seq ?_
          refine WC.mixed (fun k => k = b1) 13 (k := fun w137 k138 => ?_)
          replace hr130 := hr130.keeps k138 id
          replace hb4 := k138.heap hb4 id
          replace hb135 := k138.heap hb135 id
          replace K := K.trans (k138.any _)
          have KC := Keeps.refl (fun k => k = b1) w137
          have bh139 := hb4
          have bh140 := hb135
          have Kb := K
          refine WA.quietR 0 (d := 60) (.agg #[.int .i64 (n9 : Int), .int .i64 0, .int .i64 0, .int .i64 0, .int .i64 0, .int .i64 0, .int .i64 0, .bool false, .int .i64 0, .int .i64 0, .int .i64 0, .int .i64 0, .int .i64 0, .int .i64 (n127 : Int), .slice none 0 0]) KC (exec_load (fun w_ k_ => ldN (T := 32) (i := 0) (m := 15) (l := [.int .i64 (n9 : Int), .int .i64 0, .int .i64 0, .int .i64 0, .int .i64 0, .int .i64 0, .int .i64 0, .bool false, .int .i64 0, .int .i64 0, .int .i64 0, .int .i64 0, .int .i64 0, .int .i64 (n127 : Int), .slice none 0 0]) (k_.heap bh140 (Ne.symm n23)))) (hi := rfl) (k := ?_)
          refine WA.quiet 1 (d := 61) (.pointer (some ⟨b, 0, none⟩)) KC (hi := rfl) (k := ?_)
          refine WA.step 2 (hi := rfl) (k := ?_)
          refine WL.callG (d := 62) (f := 55) (args := #[.pointer (some ⟨b, 0, none⟩)]) (rGood_any _ _ w137 hr130) (k := fun e_ w_ h_ => ⟨.bool s128.isSome, h_.1, ?_⟩)
          obtain ⟨-, rfl⟩ := h_
          refine WL.nil ?_
          refine WX.nxt KC ?_
          refine WA.quiet 3 (d := 63) (.bool s128.isSome) KC (hi := rfl) (k := ?_)
          refine bsplit s128.isSome (fun h141 => ?_) (fun h141 => ?_)
          · refine WA.rw (t := 63) (v := .bool true) (congrArg Value.bool h141) (k := ?_)
            refine WA.quiet 4 (d := 64) (.int .i64 0) KC (hi := rfl) (k := ?_)
            refine WA.quiet 5 (d := 65) (.bool true) KC (hi := rfl) (k := ?_)
            refine WA.quiet 6 (d := 66) (.bool true) KC (hi := rfl) (k := ?_)
            refine WA.quiet 7 (d := 67) (.bool true) KC (hi := rfl) (k := ?_)
            refine WA.quiet 8 (d := 68) (.pointer (some ⟨b16, 0, none⟩)) KC (hi := rfl) (k := ?_)
            refine WA.quietR 9 (d := 69) (.int .i64 (n9 : Int)) KC (exec_load (fun w_ k_ => ld1 (T := 3) (i := 0) (k_.heap bh140 (Ne.symm n23)))) (hi := rfl) (k := ?_)
            refine WA.quiet 10 (d := 70) (.bool (decide ((n9 : Int) > 0))) KC (hi := rfl) (k := ?_)
            refine WA.quiet 11 (d := 71) (.bool (decide ((n9 : Int) > 0))) KC (hi := rfl) (k := ?_)
            refine WA.step 12 (hi := rfl) (k := ?_)
            refine WL.store (v := .agg #[.int .i64 (n9 : Int), .int .i64 0, .int .i64 0, .int .i64 0, .int .i64 0, .int .i64 0, .int .i64 0, .bool false, .int .i64 0, .int .i64 0, .int .i64 0, .int .i64 0, .int .i64 0, .int .i64 (n127 : Int), .slice none 0 0]) (i := 0) (cs' := #[.int .i64 (n9 : Int), .int .i64 0, .int .i64 0, .int .i64 0, .int .i64 0, .int .i64 0, .int .i64 0, .bool false, .int .i64 0, .int .i64 0, .int .i64 0, .int .i64 0, .int .i64 0, .int .i64 (n127 : Int), .slice none 0 0]) hb4 (k := fun w142 hb143 k144 => ?_)
            replace hr130 := hr130.keeps k144 n7
            replace hb135 := k144.heap hb135 (Ne.symm n23)
            replace K := K.trans' k144 (fun i hi e => absurd (e ▸ hi) (Nat.not_lt.2 z6))
            replace KC := KC.trans' k144 (fun i hi e => e)
            clear hb4
            refine WL.nil ?_
            refine WX.nxt KC ?_
            refine WA.step 13 (hi := rfl) (k := ?_)
            refine WL.op (d := 3) (.bool (decide ((n9 : Int) > 0))) (k := ?_)
            refine WL.nil ?_
            refine WX.nxtL ?_
            refine WA.done (k := ?_)
            clear KC
            refine WX.seqN ?_
            refine WC.ret ?_
            refine WX.ret (rs := [.cell 2 32, .tmp 3]) [.agg #[.int .i64 (n9 : Int), .int .i64 0, .int .i64 0, .int .i64 0, .int .i64 0, .int .i64 0, .int .i64 0, .bool false, .int .i64 0, .int .i64 0, .int .i64 0, .int .i64 0, .int .i64 0, .int .i64 (n127 : Int), .slice none 0 0], .bool (decide ((n9 : Int) > 0))] (.tuple #[.agg #[.int .i64 (n9 : Int), .int .i64 0, .int .i64 0, .int .i64 0, .int .i64 0, .int .i64 0, .int .i64 0, .bool false, .int .i64 0, .int .i64 0, .int .i64 0, .int .i64 0, .int .i64 0, .int .i64 (n127 : Int), .slice none 0 0], .bool (decide ((n9 : Int) > 0))]) ⟨⟨_, (by kernel_rfl), ldN (T := 32) (i := 0) (m := 15) (l := [.int .i64 (n9 : Int), .int .i64 0, .int .i64 0, .int .i64 0, .int .i64 0, .int .i64 0, .int .i64 0, .bool false, .int .i64 0, .int .i64 0, .int .i64 0, .int .i64 0, .int .i64 0, .int .i64 (n127 : Int), .slice none 0 0]) hb143⟩, (by kernel_rfl), trivial⟩ (k := ?_)
            exact ⟨(⟨⟨(n9 : Int), (⟨0, ⟨0, 0, 0, 0, 0⟩, false, 0, 0, 0⟩ : GOp), 0, 0, (n127 : Int), []⟩, none, 0⟩ : GCmd), s128, decide ((n9 : Int) > 0), rfl, (ck_4 (.inl ph125) q11 q129).iff ⟨fun _ => decide_eq_true (by omega), fun _ => h141⟩, OwAt.nil, hr130, K, l132, (by simp [blk])⟩
          · refine WA.rw (t := 63) (v := .bool false) (congrArg Value.bool h141) (k := ?_)
            refine WA.quietS 4 (d := 64) KC (hi := rfl) (k := ?_)
            refine WA.quietS 5 (d := 65) KC (hi := rfl) (k := ?_)
            refine WA.quiet 6 (d := 66) (.bool false) KC (hi := rfl) (k := ?_)
            refine WA.quiet 7 (d := 67) (.bool false) KC (hi := rfl) (k := ?_)
            refine WA.quietS 8 (d := 68) KC (hi := rfl) (k := ?_)
            refine WA.quietS 9 (d := 69) KC (hi := rfl) (k := ?_)
            refine WA.quietS 10 (d := 70) KC (hi := rfl) (k := ?_)
            refine WA.quiet 11 (d := 71) (.bool false) KC (hi := rfl) (k := ?_)
            refine WA.step 12 (hi := rfl) (k := ?_)
            refine WL.store (v := .agg #[.int .i64 (n9 : Int), .int .i64 0, .int .i64 0, .int .i64 0, .int .i64 0, .int .i64 0, .int .i64 0, .bool false, .int .i64 0, .int .i64 0, .int .i64 0, .int .i64 0, .int .i64 0, .int .i64 (n127 : Int), .slice none 0 0]) (i := 0) (cs' := #[.int .i64 (n9 : Int), .int .i64 0, .int .i64 0, .int .i64 0, .int .i64 0, .int .i64 0, .int .i64 0, .bool false, .int .i64 0, .int .i64 0, .int .i64 0, .int .i64 0, .int .i64 0, .int .i64 (n127 : Int), .slice none 0 0]) hb4 (k := fun w145 hb146 k147 => ?_)
            replace hr130 := hr130.keeps k147 n7
            replace hb135 := k147.heap hb135 (Ne.symm n23)
            replace K := K.trans' k147 (fun i hi e => absurd (e ▸ hi) (Nat.not_lt.2 z6))
            replace KC := KC.trans' k147 (fun i hi e => e)
            clear hb4
            refine WL.nil ?_
            refine WX.nxt KC ?_
            refine WA.step 13 (hi := rfl) (k := ?_)
            refine WL.op (d := 3) (.bool false) (k := ?_)
            refine WL.nil ?_
            refine WX.nxtL ?_
            refine WA.done (k := ?_)
            clear KC
            refine WX.seqN ?_
            refine WC.ret ?_
            refine WX.ret (rs := [.cell 2 32, .tmp 3]) [.agg #[.int .i64 (n9 : Int), .int .i64 0, .int .i64 0, .int .i64 0, .int .i64 0, .int .i64 0, .int .i64 0, .bool false, .int .i64 0, .int .i64 0, .int .i64 0, .int .i64 0, .int .i64 0, .int .i64 (n127 : Int), .slice none 0 0], .bool false] (.tuple #[.agg #[.int .i64 (n9 : Int), .int .i64 0, .int .i64 0, .int .i64 0, .int .i64 0, .int .i64 0, .int .i64 0, .bool false, .int .i64 0, .int .i64 0, .int .i64 0, .int .i64 0, .int .i64 0, .int .i64 (n127 : Int), .slice none 0 0], .bool false]) ⟨⟨_, (by kernel_rfl), ldN (T := 32) (i := 0) (m := 15) (l := [.int .i64 (n9 : Int), .int .i64 0, .int .i64 0, .int .i64 0, .int .i64 0, .int .i64 0, .int .i64 0, .bool false, .int .i64 0, .int .i64 0, .int .i64 0, .int .i64 0, .int .i64 0, .int .i64 (n127 : Int), .slice none 0 0]) hb146⟩, (by kernel_rfl), trivial⟩ (k := ?_)
            exact ⟨(⟨⟨(n9 : Int), (⟨0, ⟨0, 0, 0, 0, 0⟩, false, 0, 0, 0⟩ : GOp), 0, 0, (n127 : Int), []⟩, none, 0⟩ : GCmd), s128, false, rfl, (ck_4 (.inl ph125) q11 q129).f (by simp [h141]), OwAt.nil, hr130, K, l132, (by simp [blk])⟩
        · have ph125 := ne_of_beq_false h125
          refine WC.region ?_
          refine WL.op (d := 33) (.bool ((n9 : Int) == 7)) (k := ?_)
          refine WL.op (d := 31) (.bool ((n9 : Int) == 7)) (k := ?_)
          refine WL.nil ?_
          refine WX.seqN ?_
          refine WC.cond (b := (n9 : Int) == 7) (ht := fun h148 => ?_) (hf := fun h148 => ?_)
          · have ph148 := eq_of_beq h148
            refine WC.region ?_
            refine WL.op (d := 34) (.pointer (some ⟨b, 0, none⟩)) (k := ?_)
            refine WL.callG (d := 35) (f := 51) (args := #[.pointer (some ⟨b, 0, none⟩), .int .i64 1048576]) (rInt_x 1048576 hr12 l14 (by omega) (by omega)) (k := fun e_ w149 h_ => ?_)
            obtain ⟨n150, s151, q152, rfl, hr153, k154, l155, m156⟩ := h_
            refine ⟨_, rfl, ?_⟩
            replace hb4 := k154.heap hb4 (Ne.symm n7)
            replace hb25 := k154.heap hb25 (Ne.symm n22)
            replace K := K.trans' k154 (fun i hi e => e)
            clear hr12
            refine WL.op (d := 36) (.pointer (some ⟨b16, 13, none⟩)) (k := ?_)
            refine WL.store (v := .int .i64 (n150 : Int)) (i := 13) (cs' := #[.int .i64 (n9 : Int), .int .i64 0, .int .i64 0, .int .i64 0, .int .i64 0, .int .i64 0, .int .i64 0, .bool false, .int .i64 0, .int .i64 0, .int .i64 0, .int .i64 0, .int .i64 0, .int .i64 (n150 : Int), .slice none 0 0]) hb25 (k := fun w157 hb158 k159 => ?_)
            replace hr153 := hr153.keeps k159 n22
            replace hb4 := k159.heap hb4 n23
            replace K := K.trans' k159 (fun i hi e => absurd (e ▸ hi) (Nat.not_lt.2 z21))
            clear hb25
            refine WL.nil ?_
            refine WX.blockN ?_
            refine WX.seqN ?_
            refine WC.seq ?_
            refine WC.mixed (fun k => k = b1) 13 (k := fun w160 k161 => ?_)
            replace hr153 := hr153.keeps k161 id
            replace hb4 := k161.heap hb4 id
            replace hb158 := k161.heap hb158 id
            replace K := K.trans (k161.any _)
            have KC := Keeps.refl (fun k => k = b1) w160
            have bh162 := hb4
            have bh163 := hb158
            have Kb := K
            refine WA.quietR 0 (d := 60) (.agg #[.int .i64 (n9 : Int), .int .i64 0, .int .i64 0, .int .i64 0, .int .i64 0, .int .i64 0, .int .i64 0, .bool false, .int .i64 0, .int .i64 0, .int .i64 0, .int .i64 0, .int .i64 0, .int .i64 (n150 : Int), .slice none 0 0]) KC (exec_load (fun w_ k_ => ldN (T := 32) (i := 0) (m := 15) (l := [.int .i64 (n9 : Int), .int .i64 0, .int .i64 0, .int .i64 0, .int .i64 0, .int .i64 0, .int .i64 0, .bool false, .int .i64 0, .int .i64 0, .int .i64 0, .int .i64 0, .int .i64 0, .int .i64 (n150 : Int), .slice none 0 0]) (k_.heap bh163 (Ne.symm n23)))) (hi := rfl) (k := ?_)
            refine WA.quiet 1 (d := 61) (.pointer (some ⟨b, 0, none⟩)) KC (hi := rfl) (k := ?_)
            refine WA.step 2 (hi := rfl) (k := ?_)
            refine WL.callG (d := 62) (f := 55) (args := #[.pointer (some ⟨b, 0, none⟩)]) (rGood_any _ _ w160 hr153) (k := fun e_ w_ h_ => ⟨.bool s151.isSome, h_.1, ?_⟩)
            obtain ⟨-, rfl⟩ := h_
            refine WL.nil ?_
            refine WX.nxt KC ?_
            refine WA.quiet 3 (d := 63) (.bool s151.isSome) KC (hi := rfl) (k := ?_)
            refine bsplit s151.isSome (fun h164 => ?_) (fun h164 => ?_)
            · refine WA.rw (t := 63) (v := .bool true) (congrArg Value.bool h164) (k := ?_)
              refine WA.quiet 4 (d := 64) (.int .i64 0) KC (hi := rfl) (k := ?_)
              refine WA.quiet 5 (d := 65) (.bool true) KC (hi := rfl) (k := ?_)
              refine WA.quiet 6 (d := 66) (.bool true) KC (hi := rfl) (k := ?_)
              refine WA.quiet 7 (d := 67) (.bool true) KC (hi := rfl) (k := ?_)
              refine WA.quiet 8 (d := 68) (.pointer (some ⟨b16, 0, none⟩)) KC (hi := rfl) (k := ?_)
              refine WA.quietR 9 (d := 69) (.int .i64 (n9 : Int)) KC (exec_load (fun w_ k_ => ld1 (T := 3) (i := 0) (k_.heap bh163 (Ne.symm n23)))) (hi := rfl) (k := ?_)
              refine WA.quiet 10 (d := 70) (.bool (decide ((n9 : Int) > 0))) KC (hi := rfl) (k := ?_)
              refine WA.quiet 11 (d := 71) (.bool (decide ((n9 : Int) > 0))) KC (hi := rfl) (k := ?_)
              refine WA.step 12 (hi := rfl) (k := ?_)
              refine WL.store (v := .agg #[.int .i64 (n9 : Int), .int .i64 0, .int .i64 0, .int .i64 0, .int .i64 0, .int .i64 0, .int .i64 0, .bool false, .int .i64 0, .int .i64 0, .int .i64 0, .int .i64 0, .int .i64 0, .int .i64 (n150 : Int), .slice none 0 0]) (i := 0) (cs' := #[.int .i64 (n9 : Int), .int .i64 0, .int .i64 0, .int .i64 0, .int .i64 0, .int .i64 0, .int .i64 0, .bool false, .int .i64 0, .int .i64 0, .int .i64 0, .int .i64 0, .int .i64 0, .int .i64 (n150 : Int), .slice none 0 0]) hb4 (k := fun w165 hb166 k167 => ?_)
              replace hr153 := hr153.keeps k167 n7
              replace hb158 := k167.heap hb158 (Ne.symm n23)
              replace K := K.trans' k167 (fun i hi e => absurd (e ▸ hi) (Nat.not_lt.2 z6))
              replace KC := KC.trans' k167 (fun i hi e => e)
              clear hb4
              refine WL.nil ?_
              refine WX.nxt KC ?_
              refine WA.step 13 (hi := rfl) (k := ?_)
              refine WL.op (d := 3) (.bool (decide ((n9 : Int) > 0))) (k := ?_)
              refine WL.nil ?_
              refine WX.nxtL ?_
              refine WA.done (k := ?_)
              clear KC
              refine WX.seqN ?_
              refine WC.ret ?_
              refine WX.ret (rs := [.cell 2 32, .tmp 3]) [.agg #[.int .i64 (n9 : Int), .int .i64 0, .int .i64 0, .int .i64 0, .int .i64 0, .int .i64 0, .int .i64 0, .bool false, .int .i64 0, .int .i64 0, .int .i64 0, .int .i64 0, .int .i64 0, .int .i64 (n150 : Int), .slice none 0 0], .bool (decide ((n9 : Int) > 0))] (.tuple #[.agg #[.int .i64 (n9 : Int), .int .i64 0, .int .i64 0, .int .i64 0, .int .i64 0, .int .i64 0, .int .i64 0, .bool false, .int .i64 0, .int .i64 0, .int .i64 0, .int .i64 0, .int .i64 0, .int .i64 (n150 : Int), .slice none 0 0], .bool (decide ((n9 : Int) > 0))]) ⟨⟨_, (by kernel_rfl), ldN (T := 32) (i := 0) (m := 15) (l := [.int .i64 (n9 : Int), .int .i64 0, .int .i64 0, .int .i64 0, .int .i64 0, .int .i64 0, .int .i64 0, .bool false, .int .i64 0, .int .i64 0, .int .i64 0, .int .i64 0, .int .i64 0, .int .i64 (n150 : Int), .slice none 0 0]) hb166⟩, (by kernel_rfl), trivial⟩ (k := ?_)
              exact ⟨(⟨⟨(n9 : Int), (⟨0, ⟨0, 0, 0, 0, 0⟩, false, 0, 0, 0⟩ : GOp), 0, 0, (n150 : Int), []⟩, none, 0⟩ : GCmd), s151, decide ((n9 : Int) > 0), rfl, (ck_4 (.inr ph148) q11 q152).iff ⟨fun _ => decide_eq_true (by omega), fun _ => h164⟩, OwAt.nil, hr153, K, l155, (by simp [blk])⟩
            · refine WA.rw (t := 63) (v := .bool false) (congrArg Value.bool h164) (k := ?_)
              refine WA.quietS 4 (d := 64) KC (hi := rfl) (k := ?_)
              refine WA.quietS 5 (d := 65) KC (hi := rfl) (k := ?_)
              refine WA.quiet 6 (d := 66) (.bool false) KC (hi := rfl) (k := ?_)
              refine WA.quiet 7 (d := 67) (.bool false) KC (hi := rfl) (k := ?_)
              refine WA.quietS 8 (d := 68) KC (hi := rfl) (k := ?_)
              refine WA.quietS 9 (d := 69) KC (hi := rfl) (k := ?_)
              refine WA.quietS 10 (d := 70) KC (hi := rfl) (k := ?_)
              refine WA.quiet 11 (d := 71) (.bool false) KC (hi := rfl) (k := ?_)
              refine WA.step 12 (hi := rfl) (k := ?_)
              refine WL.store (v := .agg #[.int .i64 (n9 : Int), .int .i64 0, .int .i64 0, .int .i64 0, .int .i64 0, .int .i64 0, .int .i64 0, .bool false, .int .i64 0, .int .i64 0, .int .i64 0, .int .i64 0, .int .i64 0, .int .i64 (n150 : Int), .slice none 0 0]) (i := 0) (cs' := #[.int .i64 (n9 : Int), .int .i64 0, .int .i64 0, .int .i64 0, .int .i64 0, .int .i64 0, .int .i64 0, .bool false, .int .i64 0, .int .i64 0, .int .i64 0, .int .i64 0, .int .i64 0, .int .i64 (n150 : Int), .slice none 0 0]) hb4 (k := fun w168 hb169 k170 => ?_)
              replace hr153 := hr153.keeps k170 n7
              replace hb158 := k170.heap hb158 (Ne.symm n23)
              replace K := K.trans' k170 (fun i hi e => absurd (e ▸ hi) (Nat.not_lt.2 z6))
              replace KC := KC.trans' k170 (fun i hi e => e)
              clear hb4
              refine WL.nil ?_
              refine WX.nxt KC ?_
              refine WA.step 13 (hi := rfl) (k := ?_)
              refine WL.op (d := 3) (.bool false) (k := ?_)
              refine WL.nil ?_
              refine WX.nxtL ?_
              refine WA.done (k := ?_)
              clear KC
              refine WX.seqN ?_
              refine WC.ret ?_
              refine WX.ret (rs := [.cell 2 32, .tmp 3]) [.agg #[.int .i64 (n9 : Int), .int .i64 0, .int .i64 0, .int .i64 0, .int .i64 0, .int .i64 0, .int .i64 0, .bool false, .int .i64 0, .int .i64 0, .int .i64 0, .int .i64 0, .int .i64 0, .int .i64 (n150 : Int), .slice none 0 0], .bool false] (.tuple #[.agg #[.int .i64 (n9 : Int), .int .i64 0, .int .i64 0, .int .i64 0, .int .i64 0, .int .i64 0, .int .i64 0, .bool false, .int .i64 0, .int .i64 0, .int .i64 0, .int .i64 0, .int .i64 0, .int .i64 (n150 : Int), .slice none 0 0], .bool false]) ⟨⟨_, (by kernel_rfl), ldN (T := 32) (i := 0) (m := 15) (l := [.int .i64 (n9 : Int), .int .i64 0, .int .i64 0, .int .i64 0, .int .i64 0, .int .i64 0, .int .i64 0, .bool false, .int .i64 0, .int .i64 0, .int .i64 0, .int .i64 0, .int .i64 0, .int .i64 (n150 : Int), .slice none 0 0]) hb169⟩, (by kernel_rfl), trivial⟩ (k := ?_)
              exact ⟨(⟨⟨(n9 : Int), (⟨0, ⟨0, 0, 0, 0, 0⟩, false, 0, 0, 0⟩ : GOp), 0, 0, (n150 : Int), []⟩, none, 0⟩ : GCmd), s151, false, rfl, (ck_4 (.inr ph148) q11 q152).f (by simp [h164]), OwAt.nil, hr153, K, l155, (by simp [blk])⟩
          · have ph148 := ne_of_beq_false h148
            refine WC.seq ?_
            refine WC.region ?_
            refine WL.op (d := 38) (.bool ((n9 : Int) == 5)) (k := ?_)
            refine WL.op (d := 37) (.bool ((n9 : Int) == 5)) (k := ?_)
            refine WL.nil ?_
            refine WX.seqN ?_
            refine WC.cond (b := (n9 : Int) == 5) (ht := fun h171 => ?_) (hf := fun h171 => ?_)
            · have ph171 := eq_of_beq h171
              refine WC.region ?_
              refine WL.op (d := 39) (.pointer (some ⟨b, 0, none⟩)) (k := ?_)
              refine WL.callG (d := 40) (f := 51) (args := #[.pointer (some ⟨b, 0, none⟩), .int .i64 1023]) (rInt_x 1023 hr12 l14 (by omega) (by omega)) (k := fun e_ w172 h_ => ?_)
              obtain ⟨n173, s174, q175, rfl, hr176, k177, l178, m179⟩ := h_
              refine ⟨_, rfl, ?_⟩
              replace hb4 := k177.heap hb4 (Ne.symm n7)
              replace hb25 := k177.heap hb25 (Ne.symm n22)
              replace K := K.trans' k177 (fun i hi e => e)
              clear hr12
              refine WL.op (d := 41) (.pointer (some ⟨b16, 11, none⟩)) (k := ?_)
              refine WL.store (v := .int .i64 (n173 : Int)) (i := 11) (cs' := #[.int .i64 (n9 : Int), .int .i64 0, .int .i64 0, .int .i64 0, .int .i64 0, .int .i64 0, .int .i64 0, .bool false, .int .i64 0, .int .i64 0, .int .i64 0, .int .i64 (n173 : Int), .int .i64 0, .int .i64 0, .slice none 0 0]) hb25 (k := fun w180 hb181 k182 => ?_)
              replace hr176 := hr176.keeps k182 n22
              replace hb4 := k182.heap hb4 n23
              replace K := K.trans' k182 (fun i hi e => absurd (e ▸ hi) (Nat.not_lt.2 z21))
              clear hb25
              refine WL.nil ?_
              refine WX.blockN ?_
              refine WX.seqN ?_
              refine WC.seq ?_
              refine WC.mixed (fun k => k = b1) 13 (k := fun w183 k184 => ?_)
              replace hr176 := hr176.keeps k184 id
              replace hb4 := k184.heap hb4 id
              replace hb181 := k184.heap hb181 id
              replace K := K.trans (k184.any _)
              have KC := Keeps.refl (fun k => k = b1) w183
              have bh185 := hb4
              have bh186 := hb181
              have Kb := K
              refine WA.quietR 0 (d := 60) (.agg #[.int .i64 (n9 : Int), .int .i64 0, .int .i64 0, .int .i64 0, .int .i64 0, .int .i64 0, .int .i64 0, .bool false, .int .i64 0, .int .i64 0, .int .i64 0, .int .i64 (n173 : Int), .int .i64 0, .int .i64 0, .slice none 0 0]) KC (exec_load (fun w_ k_ => ldN (T := 32) (i := 0) (m := 15) (l := [.int .i64 (n9 : Int), .int .i64 0, .int .i64 0, .int .i64 0, .int .i64 0, .int .i64 0, .int .i64 0, .bool false, .int .i64 0, .int .i64 0, .int .i64 0, .int .i64 (n173 : Int), .int .i64 0, .int .i64 0, .slice none 0 0]) (k_.heap bh186 (Ne.symm n23)))) (hi := rfl) (k := ?_)
              refine WA.quiet 1 (d := 61) (.pointer (some ⟨b, 0, none⟩)) KC (hi := rfl) (k := ?_)
              refine WA.step 2 (hi := rfl) (k := ?_)
              refine WL.callG (d := 62) (f := 55) (args := #[.pointer (some ⟨b, 0, none⟩)]) (rGood_any _ _ w183 hr176) (k := fun e_ w_ h_ => ⟨.bool s174.isSome, h_.1, ?_⟩)
              obtain ⟨-, rfl⟩ := h_
              refine WL.nil ?_
              refine WX.nxt KC ?_
              refine WA.quiet 3 (d := 63) (.bool s174.isSome) KC (hi := rfl) (k := ?_)
              refine bsplit s174.isSome (fun h187 => ?_) (fun h187 => ?_)
              · refine WA.rw (t := 63) (v := .bool true) (congrArg Value.bool h187) (k := ?_)
                refine WA.quiet 4 (d := 64) (.int .i64 0) KC (hi := rfl) (k := ?_)
                refine WA.quiet 5 (d := 65) (.bool true) KC (hi := rfl) (k := ?_)
                refine WA.quiet 6 (d := 66) (.bool true) KC (hi := rfl) (k := ?_)
                refine WA.quiet 7 (d := 67) (.bool true) KC (hi := rfl) (k := ?_)
                refine WA.quiet 8 (d := 68) (.pointer (some ⟨b16, 0, none⟩)) KC (hi := rfl) (k := ?_)
                refine WA.quietR 9 (d := 69) (.int .i64 (n9 : Int)) KC (exec_load (fun w_ k_ => ld1 (T := 3) (i := 0) (k_.heap bh186 (Ne.symm n23)))) (hi := rfl) (k := ?_)
                refine WA.quiet 10 (d := 70) (.bool (decide ((n9 : Int) > 0))) KC (hi := rfl) (k := ?_)
                refine WA.quiet 11 (d := 71) (.bool (decide ((n9 : Int) > 0))) KC (hi := rfl) (k := ?_)
                refine WA.step 12 (hi := rfl) (k := ?_)
                refine WL.store (v := .agg #[.int .i64 (n9 : Int), .int .i64 0, .int .i64 0, .int .i64 0, .int .i64 0, .int .i64 0, .int .i64 0, .bool false, .int .i64 0, .int .i64 0, .int .i64 0, .int .i64 (n173 : Int), .int .i64 0, .int .i64 0, .slice none 0 0]) (i := 0) (cs' := #[.int .i64 (n9 : Int), .int .i64 0, .int .i64 0, .int .i64 0, .int .i64 0, .int .i64 0, .int .i64 0, .bool false, .int .i64 0, .int .i64 0, .int .i64 0, .int .i64 (n173 : Int), .int .i64 0, .int .i64 0, .slice none 0 0]) hb4 (k := fun w188 hb189 k190 => ?_)
                replace hr176 := hr176.keeps k190 n7
                replace hb181 := k190.heap hb181 (Ne.symm n23)
                replace K := K.trans' k190 (fun i hi e => absurd (e ▸ hi) (Nat.not_lt.2 z6))
                replace KC := KC.trans' k190 (fun i hi e => e)
                clear hb4
                refine WL.nil ?_
                refine WX.nxt KC ?_
                refine WA.step 13 (hi := rfl) (k := ?_)
                refine WL.op (d := 3) (.bool (decide ((n9 : Int) > 0))) (k := ?_)
                refine WL.nil ?_
                refine WX.nxtL ?_
                refine WA.done (k := ?_)
                clear KC
                refine WX.seqN ?_
                refine WC.ret ?_
                refine WX.ret (rs := [.cell 2 32, .tmp 3]) [.agg #[.int .i64 (n9 : Int), .int .i64 0, .int .i64 0, .int .i64 0, .int .i64 0, .int .i64 0, .int .i64 0, .bool false, .int .i64 0, .int .i64 0, .int .i64 0, .int .i64 (n173 : Int), .int .i64 0, .int .i64 0, .slice none 0 0], .bool (decide ((n9 : Int) > 0))] (.tuple #[.agg #[.int .i64 (n9 : Int), .int .i64 0, .int .i64 0, .int .i64 0, .int .i64 0, .int .i64 0, .int .i64 0, .bool false, .int .i64 0, .int .i64 0, .int .i64 0, .int .i64 (n173 : Int), .int .i64 0, .int .i64 0, .slice none 0 0], .bool (decide ((n9 : Int) > 0))]) ⟨⟨_, (by kernel_rfl), ldN (T := 32) (i := 0) (m := 15) (l := [.int .i64 (n9 : Int), .int .i64 0, .int .i64 0, .int .i64 0, .int .i64 0, .int .i64 0, .int .i64 0, .bool false, .int .i64 0, .int .i64 0, .int .i64 0, .int .i64 (n173 : Int), .int .i64 0, .int .i64 0, .slice none 0 0]) hb189⟩, (by kernel_rfl), trivial⟩ (k := ?_)
                exact ⟨(⟨⟨(n9 : Int), (⟨0, ⟨0, 0, 0, 0, 0⟩, false, 0, 0, 0⟩ : GOp), (n173 : Int), 0, 0, []⟩, none, 0⟩ : GCmd), s174, decide ((n9 : Int) > 0), rfl, (ck_5 ph171 q11 q175).iff ⟨fun _ => decide_eq_true (by omega), fun _ => h187⟩, OwAt.nil, hr176, K, l178, (by simp [blk])⟩
              · refine WA.rw (t := 63) (v := .bool false) (congrArg Value.bool h187) (k := ?_)
                refine WA.quietS 4 (d := 64) KC (hi := rfl) (k := ?_)
                refine WA.quietS 5 (d := 65) KC (hi := rfl) (k := ?_)
                refine WA.quiet 6 (d := 66) (.bool false) KC (hi := rfl) (k := ?_)
                refine WA.quiet 7 (d := 67) (.bool false) KC (hi := rfl) (k := ?_)
                refine WA.quietS 8 (d := 68) KC (hi := rfl) (k := ?_)
                refine WA.quietS 9 (d := 69) KC (hi := rfl) (k := ?_)
                refine WA.quietS 10 (d := 70) KC (hi := rfl) (k := ?_)
                refine WA.quiet 11 (d := 71) (.bool false) KC (hi := rfl) (k := ?_)
                refine WA.step 12 (hi := rfl) (k := ?_)
                refine WL.store (v := .agg #[.int .i64 (n9 : Int), .int .i64 0, .int .i64 0, .int .i64 0, .int .i64 0, .int .i64 0, .int .i64 0, .bool false, .int .i64 0, .int .i64 0, .int .i64 0, .int .i64 (n173 : Int), .int .i64 0, .int .i64 0, .slice none 0 0]) (i := 0) (cs' := #[.int .i64 (n9 : Int), .int .i64 0, .int .i64 0, .int .i64 0, .int .i64 0, .int .i64 0, .int .i64 0, .bool false, .int .i64 0, .int .i64 0, .int .i64 0, .int .i64 (n173 : Int), .int .i64 0, .int .i64 0, .slice none 0 0]) hb4 (k := fun w191 hb192 k193 => ?_)
                replace hr176 := hr176.keeps k193 n7
                replace hb181 := k193.heap hb181 (Ne.symm n23)
                replace K := K.trans' k193 (fun i hi e => absurd (e ▸ hi) (Nat.not_lt.2 z6))
                replace KC := KC.trans' k193 (fun i hi e => e)
                clear hb4
                refine WL.nil ?_
                refine WX.nxt KC ?_
                refine WA.step 13 (hi := rfl) (k := ?_)
                refine WL.op (d := 3) (.bool false) (k := ?_)
                refine WL.nil ?_
                refine WX.nxtL ?_
                refine WA.done (k := ?_)
                clear KC
                refine WX.seqN ?_
                refine WC.ret ?_
                refine WX.ret (rs := [.cell 2 32, .tmp 3]) [.agg #[.int .i64 (n9 : Int), .int .i64 0, .int .i64 0, .int .i64 0, .int .i64 0, .int .i64 0, .int .i64 0, .bool false, .int .i64 0, .int .i64 0, .int .i64 0, .int .i64 (n173 : Int), .int .i64 0, .int .i64 0, .slice none 0 0], .bool false] (.tuple #[.agg #[.int .i64 (n9 : Int), .int .i64 0, .int .i64 0, .int .i64 0, .int .i64 0, .int .i64 0, .int .i64 0, .bool false, .int .i64 0, .int .i64 0, .int .i64 0, .int .i64 (n173 : Int), .int .i64 0, .int .i64 0, .slice none 0 0], .bool false]) ⟨⟨_, (by kernel_rfl), ldN (T := 32) (i := 0) (m := 15) (l := [.int .i64 (n9 : Int), .int .i64 0, .int .i64 0, .int .i64 0, .int .i64 0, .int .i64 0, .int .i64 0, .bool false, .int .i64 0, .int .i64 0, .int .i64 0, .int .i64 (n173 : Int), .int .i64 0, .int .i64 0, .slice none 0 0]) hb192⟩, (by kernel_rfl), trivial⟩ (k := ?_)
                exact ⟨(⟨⟨(n9 : Int), (⟨0, ⟨0, 0, 0, 0, 0⟩, false, 0, 0, 0⟩ : GOp), (n173 : Int), 0, 0, []⟩, none, 0⟩ : GCmd), s174, false, rfl, (ck_5 ph171 q11 q175).f (by simp [h187]), OwAt.nil, hr176, K, l178, (by simp [blk])⟩
            · have ph171 := ne_of_beq_false h171
              refine WC.seq ?_
              refine WC.region ?_
              refine WL.op (d := 43) (.bool ((n9 : Int) == 8)) (k := ?_)
              refine WL.op (d := 42) (.bool ((n9 : Int) == 8)) (k := ?_)
              refine WL.nil ?_
              refine WX.seqN ?_
              refine WC.cond (b := (n9 : Int) == 8) (ht := fun h194 => ?_) (hf := fun h194 => ?_)
              · have ph194 := eq_of_beq h194
                refine WC.seq ?_
                refine WC.region ?_
                refine WL.op (d := 44) (.pointer (some ⟨b, 0, none⟩)) (k := ?_)
                refine WL.callG (d := 45) (f := 51) (args := #[.pointer (some ⟨b, 0, none⟩), .int .i64 64]) (rInt_x 64 hr12 l14 (by omega) (by omega)) (k := fun e_ w195 h_ => ?_)
                obtain ⟨n196, s197, q198, rfl, hr199, k200, l201, m202⟩ := h_
                refine ⟨_, rfl, ?_⟩
                replace hb4 := k200.heap hb4 (Ne.symm n7)
                replace hb25 := k200.heap hb25 (Ne.symm n22)
                replace K := K.trans' k200 (fun i hi e => e)
                clear hr12
                refine WL.op (d := 46) (.int .i64 0) (k := ?_)
                refine WL.nil ?_
                refine WX.seqN ?_
                refine WC.block ?_
                refine WC.loop (ι := Int × (Option (List UInt8)) × (List GFate) × (Option Addr) × Nat) (fun (⟨i, s, done, Ao, co⟩ : Int × (Option (List UInt8)) × (List GFate) × (Option Addr) × Nat) => [(0, .pointer (some ⟨b, 0, none⟩)), (2, .pointer (some ⟨b1, 0, none⟩)), (3, .bool false), (7, .pointer (some ⟨b, 0, none⟩)), (8, .int .i64 (n9 : Int)), (9, .agg #[.int .i64 (n9 : Int), .int .i64 0, .int .i64 0, .int .i64 0, .int .i64 0, .int .i64 0, .int .i64 0, .bool false, .int .i64 0, .int .i64 0, .int .i64 0, .int .i64 0, .int .i64 0, .int .i64 0, .slice none 0 0]), (4, .pointer (some ⟨b16, 0, none⟩)), (5, .int .i64 0), (10, .pointer (some ⟨b16, 0, none⟩)), (11, .int .i64 (n9 : Int)), (13, .bool ((n9 : Int) == 1)), (12, .bool ((n9 : Int) == 1)), (22, .bool ((n9 : Int) == 2)), (21, .bool ((n9 : Int) == 3)), (23, .bool ((n9 : Int) == 3)), (32, .bool ((n9 : Int) == 4)), (31, .bool ((n9 : Int) == 7)), (33, .bool ((n9 : Int) == 7)), (38, .bool ((n9 : Int) == 5)), (37, .bool ((n9 : Int) == 5)), (43, .bool ((n9 : Int) == 8)), (42, .bool ((n9 : Int) == 8)), (44, .pointer (some ⟨b, 0, none⟩)), (45, .int .i64 (n196 : Int)), (46, .int .i64 i)]) (fun (⟨i, s, done, Ao, co⟩ : Int × (Option (List UInt8)) × (List GFate) × (Option Addr) × Nat) (w_ : World) => (Keeps (fun k => k = b) w w_) ∧ (RdAt b s w_) ∧ (stLen s ≤ 1000000000) ∧ (w_.heap[b1]? = some (.cells #[.int .i64 0, .int .i64 0, .int .i64 0, .int .i64 0, .int .i64 0, .int .i64 0, .int .i64 0, .bool false, .int .i64 0, .int .i64 0, .int .i64 0, .int .i64 0, .int .i64 0, .int .i64 0, .slice none 0 0] 32 (0, 0))) ∧ (w_.heap[b16]? = some (.cells #[.int .i64 (n9 : Int), .int .i64 0, .int .i64 0, .int .i64 0, .int .i64 0, .int .i64 0, .int .i64 0, .bool false, .int .i64 0, .int .i64 0, .int .i64 0, .int .i64 0, .int .i64 0, .int .i64 0, .slice Ao done.length co] 32 (0, 0))) ∧ (OwAt fateC 2 50 Ao co done w_) ∧ (∀ i, blk Ao = some i → w.heap.size ≤ i) ∧ (0 ≤ i) ∧ (i ≤ (n196 : Int)) ∧ ((done.length : Int) ≤ i) ∧ (fsI n196 s197 i done s)) (fun (⟨i, s, done, Ao, co⟩ : Int × (Option (List UInt8)) × (List GFate) × (Option Addr) × Nat) => ((n196 : Int) - i).toNat) (0, s197, [], none, 0) ⟨(by kernel_rfl), (by kernel_rfl), (by kernel_rfl), (by kernel_rfl), (by kernel_rfl), (by kernel_rfl), (by kernel_rfl), (by kernel_rfl), (by kernel_rfl), (by kernel_rfl), (by kernel_rfl), (by kernel_rfl), (by kernel_rfl), (by kernel_rfl), (by kernel_rfl), (by kernel_rfl), (by kernel_rfl), (by kernel_rfl), (by kernel_rfl), (by kernel_rfl), (by kernel_rfl), (by kernel_rfl), (by kernel_rfl), (by kernel_rfl), (by kernel_rfl), trivial⟩ ⟨K, hr199, l201, hb4, hb25, OwAt.nil, (by simp [blk]), Int.le_refl 0, (by omega), (Int.le_refl _), fsI_zero _ _⟩ ?_
                rintro ⟨i, s, done, Ao, co⟩ w203 ⟨K, hb204, l205, hb206, hb207, hb208, ol209, i0, i1, hdl, hrd⟩
                refine WC.seq ?_
                refine WC.region ?_
                refine WL.op (d := 47) (.bool (decide (i < (n196 : Int)))) (k := ?_)
                refine WL.nil ?_
                refine WX.seqN ?_
                refine WC.seq ?_
                refine WC.cond (b := decide (i < (n196 : Int))) (ht := fun h210 => ?_) (hf := fun h210 => ?_)
                · have ph210 := of_decide_eq_true h210
                  refine WC.skip ?_
                  refine WX.seqN ?_
                  refine WC.seq ?_
                  refine WC.block ?_
                  refine WC.seq ?_
                  refine WC.region ?_
                  refine WL.op (d := 48) (.pointer (some ⟨b, 0, none⟩)) (k := ?_)
                  refine WL.callG (d := 49) (f := 51) (args := #[.pointer (some ⟨b, 0, none⟩), .int .i64 2]) (rInt_x 2 hb204 l205 (by omega) (by omega)) (k := fun e_ w211 h_ => ?_)
                  obtain ⟨n212, s213, q214, rfl, hr215, k216, l217, m218⟩ := h_
                  refine ⟨_, rfl, ?_⟩
                  replace hb206 := k216.heap hb206 (Ne.symm n7)
                  replace hb207 := k216.heap hb207 (Ne.symm n22)
                  replace hb208 := hb208.keeps k216 (fun i hi e => (hb204.offO hb208 (by decide)) (e ▸ hi))
                  replace K := K.trans' k216 (fun i hi e => e)
                  clear hb204
                  refine WL.op (d := 6) (.int .i64 (n212 : Int)) (k := ?_)
                  refine WL.nil ?_
                  refine WX.seqN ?_
                  refine WC.mixed (fun k => k = b ∨ blk Ao = some k) 9 (k := fun w219 k220 => ?_)
                  replace hr215 := hr215.keeps k220 id
                  replace hb206 := k220.heap hb206 id
                  replace hb207 := k220.heap hb207 id
                  replace hb208 := hb208.adds k220
                  replace K := K.trans (k220.any _)
                  have KC := Keeps.refl (fun k => k = b ∨ blk Ao = some k) w219
                  have bh221 := hb206
                  have bh222 := hb207
                  have Kb := K
                  refine WA.quiet 0 (d := 50) (.pointer (some ⟨b16, 14, none⟩)) KC (hi := rfl) (k := ?_)
                  refine WA.quietR 1 (d := 51) (.slice Ao done.length co) KC (exec_load (fun w_ k_ => ld1 (T := 30) (i := 14) (k_.heap bh222 (not_or.2 ⟨(Ne.symm n22), (hb208.offT hb207 (by decide))⟩)))) (hi := rfl) (k := ?_)
                  refine WA.quiet 2 (d := 52) (.int .i64 (n212 : Int)) KC (hi := rfl) (k := ?_)
                  refine WA.quiet 3 (d := 53) (.pointer (some ⟨b, 0, none⟩)) KC (hi := rfl) (k := ?_)
                  refine WA.step 4 (hi := rfl) (k := ?_)
                  refine WL.callG (d := 54) (f := 51) (args := #[.pointer (some ⟨b, 0, none⟩), .int .i64 64]) (rInt_x 64 hr215 l217 (by omega) (by omega)) (k := fun e_ w223 h_ => ?_)
                  obtain ⟨n224, s225, q226, rfl, hr227, k228, l229, m230⟩ := h_
                  refine ⟨_, rfl, ?_⟩
                  replace hb206 := k228.heap hb206 (Ne.symm n7)
                  replace hb207 := k228.heap hb207 (Ne.symm n22)
                  replace hb208 := hb208.keeps k228 (fun i hi e => (hr215.offO hb208 (by decide)) (e ▸ hi))
                  replace K := K.trans' k228 (fun i hi e => e)
                  replace KC := KC.trans' k228 (fun i hi e => .inl (e))
                  clear hr215
                  refine WL.nil ?_
                  refine WX.nxt KC ?_
                  refine WA.quiet 5 (d := 55) (.agg #[.int .i64 (n212 : Int), .int .i64 (n224 : Int)]) KC (hi := rfl) (k := ?_)
                  refine WA.step 6 (hi := rfl) (k := ?_)
                  refine WL.newF (d := 56) (T := 50) #[.int .i64 (n212 : Int), .int .i64 (n224 : Int)] (fun b => .slice (some ⟨b, 0, none⟩) 1 1) (k := fun b231 w232 g233 hb234 k235 => ?_)
                  have z236 := Nat.le_trans K.size g233
                  have zc237 := Nat.le_trans KC.size g233
                  have n238 : b ≠ b231 := Nat.ne_of_lt (Nat.lt_of_lt_of_le hr227.lt g233)
                  have n239 : b1 ≠ b231 := Nat.ne_of_lt (Nat.lt_of_lt_of_le (lt_of_heap hb206) g233)
                  have n240 : b16 ≠ b231 := Nat.ne_of_lt (Nat.lt_of_lt_of_le (lt_of_heap hb207) g233)
                  have n241 := OwAt.off_new hb208 g233
                  replace hr227 := hr227.keeps k235 id
                  replace hb206 := k235.heap hb206 id
                  replace hb207 := k235.heap hb207 id
                  replace hb208 := hb208.adds k235
                  replace K := K.trans (k235.any _)
                  replace KC := KC.trans (k235.any _)
                  refine WL.nil ?_
                  refine WX.nxt KC ?_
                  refine WA.step 7 (hi := rfl) (k := ?_)
                  refine WL.append (d := 57) (T := 30) (cl := fateC) (xs := done) (ys := [(⟨(n212 : Int), (n224 : Int)⟩ : GFate)]) (c := 1) ekFate hb208 (SlAt.of_lit (ys := [(⟨(n212 : Int), (n224 : Int)⟩ : GFate)]) ekFate hb234 (by kernel_rfl)) (by simp; omega) (k := fun A242 c243 w244 ho245 k246 n247 => ?_)
                  have ol248 := olink_step ol209 K n247
                  replace hr227 := hr227.keeps k246 (hr227.offO hb208 (by decide))
                  replace hb206 := k246.heap hb206 (hb208.offT hb206 (by decide))
                  replace hb207 := k246.heap hb207 (hb208.offT hb207 (by decide))
                  replace K := K.trans' k246 (fun i hi e => absurd hi (Nat.not_lt.2 (ol209 i e)))
                  replace KC := KC.trans' k246 (fun i hi e => .inr (e))
                  clear hb208
                  refine WL.nil ?_
                  refine WX.nxt KC ?_
                  refine WA.quiet 8 (d := 58) (.pointer (some ⟨b16, 14, none⟩)) KC (hi := rfl) (k := ?_)
                  refine WA.step 9 (hi := rfl) (k := ?_)
                  refine WL.store (v := .slice A242 ((done ++ [(⟨(n212 : Int), (n224 : Int)⟩ : GFate)]).length) c243) (i := 14) (cs' := #[.int .i64 (n9 : Int), .int .i64 0, .int .i64 0, .int .i64 0, .int .i64 0, .int .i64 0, .int .i64 0, .bool false, .int .i64 0, .int .i64 0, .int .i64 0, .int .i64 0, .int .i64 0, .int .i64 0, .slice A242 ((done ++ [(⟨(n212 : Int), (n224 : Int)⟩ : GFate)]).length) c243]) hb207 (k := fun w249 hb250 k251 => ?_)
                  replace hr227 := hr227.keeps k251 n22
                  replace hb206 := k251.heap hb206 n23
                  replace ho245 := ho245.keeps k251 (fun i hi e => (ho245.offT hb207 (by decide)) (e ▸ hi))
                  replace K := K.trans' k251 (fun i hi e => absurd (e ▸ hi) (Nat.not_lt.2 z21))
                  clear hb207
                  refine WL.nil ?_
                  refine WX.nxtL ?_
                  refine WA.done (k := ?_)
                  clear KC
                  refine WX.blockN ?_
                  refine WX.seqN ?_
                  refine WC.region ?_
                  refine WL.opE (d := 59) (.int .i64 (IntKind.i64.wrap (i + 1))) (v := .int .i64 (i + 1)) (congrArg (Value.int .i64) (IntWalk.i64_in _ (by omega))) (k := ?_)
                  refine WL.op (d := 46) (.int .i64 (i + 1)) (k := ?_)
                  refine WL.nil ?_
                  refine WX.round (i + 1, s225, done ++ [(⟨(n212 : Int), (n224 : Int)⟩ : GFate)], A242, c243) (by show ((n196 : Int) - (i + 1)).toNat < ((n196 : Int) - i).toNat; omega) ⟨(by kernel_rfl), (by kernel_rfl), (by kernel_rfl), (by kernel_rfl), (by kernel_rfl), (by kernel_rfl), (by kernel_rfl), (by kernel_rfl), (by kernel_rfl), (by kernel_rfl), (by kernel_rfl), (by kernel_rfl), (by kernel_rfl), (by kernel_rfl), (by kernel_rfl), (by kernel_rfl), (by kernel_rfl), (by kernel_rfl), (by kernel_rfl), (by kernel_rfl), (by kernel_rfl), (by kernel_rfl), (by kernel_rfl), (by kernel_rfl), (by kernel_rfl), trivial⟩ ⟨K, hr227, l229, hb206, hb250, ho245, ol248, (by omega), (by omega), (by simp; omega), (fsI_succ i0 (by omega) hrd (rdFate_eq q214 q226))⟩
                · have ph210 := of_decide_eq_false h210
                  refine WC.exit ?_
                  refine WX.seqE ?_
                  refine WX.seqE ?_
                  refine WX.blockE ?_
                  refine WX.blockN ?_
                  refine WX.seqN ?_
                  refine WC.seq ?_
                  refine WC.mixed (fun k => k = b1) 13 (k := fun w252 k253 => ?_)
                  replace hb204 := hb204.keeps k253 id
                  replace hb206 := k253.heap hb206 id
                  replace hb207 := k253.heap hb207 id
                  replace hb208 := hb208.adds k253
                  replace K := K.trans (k253.any _)
                  have KC := Keeps.refl (fun k => k = b1) w252
                  have bh254 := hb206
                  have bh255 := hb207
                  have Kb := K
                  refine WA.quietR 0 (d := 60) (.agg #[.int .i64 (n9 : Int), .int .i64 0, .int .i64 0, .int .i64 0, .int .i64 0, .int .i64 0, .int .i64 0, .bool false, .int .i64 0, .int .i64 0, .int .i64 0, .int .i64 0, .int .i64 0, .int .i64 0, .slice Ao done.length co]) KC (exec_load (fun w_ k_ => ldN (T := 32) (i := 0) (m := 15) (l := [.int .i64 (n9 : Int), .int .i64 0, .int .i64 0, .int .i64 0, .int .i64 0, .int .i64 0, .int .i64 0, .bool false, .int .i64 0, .int .i64 0, .int .i64 0, .int .i64 0, .int .i64 0, .int .i64 0, .slice Ao done.length co]) (k_.heap bh255 (Ne.symm n23)))) (hi := rfl) (k := ?_)
                  refine WA.quiet 1 (d := 61) (.pointer (some ⟨b, 0, none⟩)) KC (hi := rfl) (k := ?_)
                  refine WA.step 2 (hi := rfl) (k := ?_)
                  refine WL.callG (d := 62) (f := 55) (args := #[.pointer (some ⟨b, 0, none⟩)]) (rGood_any _ _ w252 hb204) (k := fun e_ w_ h_ => ⟨.bool s.isSome, h_.1, ?_⟩)
                  obtain ⟨-, rfl⟩ := h_
                  refine WL.nil ?_
                  refine WX.nxt KC ?_
                  refine WA.quiet 3 (d := 63) (.bool s.isSome) KC (hi := rfl) (k := ?_)
                  refine bsplit s.isSome (fun h256 => ?_) (fun h256 => ?_)
                  · refine WA.rw (t := 63) (v := .bool true) (congrArg Value.bool h256) (k := ?_)
                    refine WA.quiet 4 (d := 64) (.int .i64 0) KC (hi := rfl) (k := ?_)
                    refine WA.quiet 5 (d := 65) (.bool true) KC (hi := rfl) (k := ?_)
                    refine WA.quiet 6 (d := 66) (.bool true) KC (hi := rfl) (k := ?_)
                    refine WA.quiet 7 (d := 67) (.bool true) KC (hi := rfl) (k := ?_)
                    refine WA.quiet 8 (d := 68) (.pointer (some ⟨b16, 0, none⟩)) KC (hi := rfl) (k := ?_)
                    refine WA.quietR 9 (d := 69) (.int .i64 (n9 : Int)) KC (exec_load (fun w_ k_ => ld1 (T := 3) (i := 0) (k_.heap bh255 (Ne.symm n23)))) (hi := rfl) (k := ?_)
                    refine WA.quiet 10 (d := 70) (.bool (decide ((n9 : Int) > 0))) KC (hi := rfl) (k := ?_)
                    refine WA.quiet 11 (d := 71) (.bool (decide ((n9 : Int) > 0))) KC (hi := rfl) (k := ?_)
                    refine WA.step 12 (hi := rfl) (k := ?_)
                    refine WL.store (v := .agg #[.int .i64 (n9 : Int), .int .i64 0, .int .i64 0, .int .i64 0, .int .i64 0, .int .i64 0, .int .i64 0, .bool false, .int .i64 0, .int .i64 0, .int .i64 0, .int .i64 0, .int .i64 0, .int .i64 0, .slice Ao done.length co]) (i := 0) (cs' := #[.int .i64 (n9 : Int), .int .i64 0, .int .i64 0, .int .i64 0, .int .i64 0, .int .i64 0, .int .i64 0, .bool false, .int .i64 0, .int .i64 0, .int .i64 0, .int .i64 0, .int .i64 0, .int .i64 0, .slice Ao done.length co]) hb206 (k := fun w257 hb258 k259 => ?_)
                    replace hb204 := hb204.keeps k259 n7
                    replace hb207 := k259.heap hb207 (Ne.symm n23)
                    replace hb208 := hb208.keeps k259 (fun i hi e => (hb208.offT hb206 (by decide)) (e ▸ hi))
                    replace K := K.trans' k259 (fun i hi e => absurd (e ▸ hi) (Nat.not_lt.2 z6))
                    replace KC := KC.trans' k259 (fun i hi e => e)
                    clear hb206
                    refine WL.nil ?_
                    refine WX.nxt KC ?_
                    refine WA.step 13 (hi := rfl) (k := ?_)
                    refine WL.op (d := 3) (.bool (decide ((n9 : Int) > 0))) (k := ?_)
                    refine WL.nil ?_
                    refine WX.nxtL ?_
                    refine WA.done (k := ?_)
                    clear KC
                    refine WX.seqN ?_
                    refine WC.ret ?_
                    refine WX.ret (rs := [.cell 2 32, .tmp 3]) [.agg #[.int .i64 (n9 : Int), .int .i64 0, .int .i64 0, .int .i64 0, .int .i64 0, .int .i64 0, .int .i64 0, .bool false, .int .i64 0, .int .i64 0, .int .i64 0, .int .i64 0, .int .i64 0, .int .i64 0, .slice Ao done.length co], .bool (decide ((n9 : Int) > 0))] (.tuple #[.agg #[.int .i64 (n9 : Int), .int .i64 0, .int .i64 0, .int .i64 0, .int .i64 0, .int .i64 0, .int .i64 0, .bool false, .int .i64 0, .int .i64 0, .int .i64 0, .int .i64 0, .int .i64 0, .int .i64 0, .slice Ao done.length co], .bool (decide ((n9 : Int) > 0))]) ⟨⟨_, (by kernel_rfl), ldN (T := 32) (i := 0) (m := 15) (l := [.int .i64 (n9 : Int), .int .i64 0, .int .i64 0, .int .i64 0, .int .i64 0, .int .i64 0, .int .i64 0, .bool false, .int .i64 0, .int .i64 0, .int .i64 0, .int .i64 0, .int .i64 0, .int .i64 0, .slice Ao done.length co]) hb258⟩, (by kernel_rfl), trivial⟩ (k := ?_)
                    exact ⟨(⟨⟨(n9 : Int), (⟨0, ⟨0, 0, 0, 0, 0⟩, false, 0, 0, 0⟩ : GOp), 0, 0, 0, done⟩, Ao, co⟩ : GCmd), s, decide ((n9 : Int) > 0), rfl, (ck_8 ph194 q11 q198 hrd (by omega)).iff ⟨fun _ => decide_eq_true (by omega), fun _ => h256⟩, hb208, hb204, K, l205, ol209⟩
                  · refine WA.rw (t := 63) (v := .bool false) (congrArg Value.bool h256) (k := ?_)
                    refine WA.quietS 4 (d := 64) KC (hi := rfl) (k := ?_)
                    refine WA.quietS 5 (d := 65) KC (hi := rfl) (k := ?_)
                    refine WA.quiet 6 (d := 66) (.bool false) KC (hi := rfl) (k := ?_)
                    refine WA.quiet 7 (d := 67) (.bool false) KC (hi := rfl) (k := ?_)
                    refine WA.quietS 8 (d := 68) KC (hi := rfl) (k := ?_)
                    refine WA.quietS 9 (d := 69) KC (hi := rfl) (k := ?_)
                    refine WA.quietS 10 (d := 70) KC (hi := rfl) (k := ?_)
                    refine WA.quiet 11 (d := 71) (.bool false) KC (hi := rfl) (k := ?_)
                    refine WA.step 12 (hi := rfl) (k := ?_)
                    refine WL.store (v := .agg #[.int .i64 (n9 : Int), .int .i64 0, .int .i64 0, .int .i64 0, .int .i64 0, .int .i64 0, .int .i64 0, .bool false, .int .i64 0, .int .i64 0, .int .i64 0, .int .i64 0, .int .i64 0, .int .i64 0, .slice Ao done.length co]) (i := 0) (cs' := #[.int .i64 (n9 : Int), .int .i64 0, .int .i64 0, .int .i64 0, .int .i64 0, .int .i64 0, .int .i64 0, .bool false, .int .i64 0, .int .i64 0, .int .i64 0, .int .i64 0, .int .i64 0, .int .i64 0, .slice Ao done.length co]) hb206 (k := fun w260 hb261 k262 => ?_)
                    replace hb204 := hb204.keeps k262 n7
                    replace hb207 := k262.heap hb207 (Ne.symm n23)
                    replace hb208 := hb208.keeps k262 (fun i hi e => (hb208.offT hb206 (by decide)) (e ▸ hi))
                    replace K := K.trans' k262 (fun i hi e => absurd (e ▸ hi) (Nat.not_lt.2 z6))
                    replace KC := KC.trans' k262 (fun i hi e => e)
                    clear hb206
                    refine WL.nil ?_
                    refine WX.nxt KC ?_
                    refine WA.step 13 (hi := rfl) (k := ?_)
                    refine WL.op (d := 3) (.bool false) (k := ?_)
                    refine WL.nil ?_
                    refine WX.nxtL ?_
                    refine WA.done (k := ?_)
                    clear KC
                    refine WX.seqN ?_
                    refine WC.ret ?_
                    refine WX.ret (rs := [.cell 2 32, .tmp 3]) [.agg #[.int .i64 (n9 : Int), .int .i64 0, .int .i64 0, .int .i64 0, .int .i64 0, .int .i64 0, .int .i64 0, .bool false, .int .i64 0, .int .i64 0, .int .i64 0, .int .i64 0, .int .i64 0, .int .i64 0, .slice Ao done.length co], .bool false] (.tuple #[.agg #[.int .i64 (n9 : Int), .int .i64 0, .int .i64 0, .int .i64 0, .int .i64 0, .int .i64 0, .int .i64 0, .bool false, .int .i64 0, .int .i64 0, .int .i64 0, .int .i64 0, .int .i64 0, .int .i64 0, .slice Ao done.length co], .bool false]) ⟨⟨_, (by kernel_rfl), ldN (T := 32) (i := 0) (m := 15) (l := [.int .i64 (n9 : Int), .int .i64 0, .int .i64 0, .int .i64 0, .int .i64 0, .int .i64 0, .int .i64 0, .bool false, .int .i64 0, .int .i64 0, .int .i64 0, .int .i64 0, .int .i64 0, .int .i64 0, .slice Ao done.length co]) hb261⟩, (by kernel_rfl), trivial⟩ (k := ?_)
                    exact ⟨(⟨⟨(n9 : Int), (⟨0, ⟨0, 0, 0, 0, 0⟩, false, 0, 0, 0⟩ : GOp), 0, 0, 0, done⟩, Ao, co⟩ : GCmd), s, false, rfl, (ck_8 ph194 q11 q198 hrd (by omega)).f (by simp [h256]), hb208, hb204, K, l205, ol209⟩
              · have ph194 := ne_of_beq_false h194
                refine WC.skip ?_
                refine WX.blockN ?_
                refine WX.seqN ?_
                refine WC.seq ?_
                refine WC.mixed (fun k => k = b1) 13 (k := fun w263 k264 => ?_)
                replace hr12 := hr12.keeps k264 id
                replace hb4 := k264.heap hb4 id
                replace hb25 := k264.heap hb25 id
                replace K := K.trans (k264.any _)
                have KC := Keeps.refl (fun k => k = b1) w263
                have bh265 := hb4
                have bh266 := hb25
                have Kb := K
                refine WA.quietR 0 (d := 60) (.agg #[.int .i64 (n9 : Int), .int .i64 0, .int .i64 0, .int .i64 0, .int .i64 0, .int .i64 0, .int .i64 0, .bool false, .int .i64 0, .int .i64 0, .int .i64 0, .int .i64 0, .int .i64 0, .int .i64 0, .slice none 0 0]) KC (exec_load (fun w_ k_ => ldN (T := 32) (i := 0) (m := 15) (l := [.int .i64 (n9 : Int), .int .i64 0, .int .i64 0, .int .i64 0, .int .i64 0, .int .i64 0, .int .i64 0, .bool false, .int .i64 0, .int .i64 0, .int .i64 0, .int .i64 0, .int .i64 0, .int .i64 0, .slice none 0 0]) (k_.heap bh266 (Ne.symm n23)))) (hi := rfl) (k := ?_)
                refine WA.quiet 1 (d := 61) (.pointer (some ⟨b, 0, none⟩)) KC (hi := rfl) (k := ?_)
                refine WA.step 2 (hi := rfl) (k := ?_)
                refine WL.callG (d := 62) (f := 55) (args := #[.pointer (some ⟨b, 0, none⟩)]) (rGood_any _ _ w263 hr12) (k := fun e_ w_ h_ => ⟨.bool s10.isSome, h_.1, ?_⟩)
                obtain ⟨-, rfl⟩ := h_
                refine WL.nil ?_
                refine WX.nxt KC ?_
                refine WA.quiet 3 (d := 63) (.bool s10.isSome) KC (hi := rfl) (k := ?_)
                refine bsplit s10.isSome (fun h267 => ?_) (fun h267 => ?_)
                · refine WA.rw (t := 63) (v := .bool true) (congrArg Value.bool h267) (k := ?_)
                  refine WA.quiet 4 (d := 64) (.int .i64 0) KC (hi := rfl) (k := ?_)
                  refine WA.quiet 5 (d := 65) (.bool true) KC (hi := rfl) (k := ?_)
                  refine WA.quiet 6 (d := 66) (.bool true) KC (hi := rfl) (k := ?_)
                  refine WA.quiet 7 (d := 67) (.bool true) KC (hi := rfl) (k := ?_)
                  refine WA.quiet 8 (d := 68) (.pointer (some ⟨b16, 0, none⟩)) KC (hi := rfl) (k := ?_)
                  refine WA.quietR 9 (d := 69) (.int .i64 (n9 : Int)) KC (exec_load (fun w_ k_ => ld1 (T := 3) (i := 0) (k_.heap bh266 (Ne.symm n23)))) (hi := rfl) (k := ?_)
                  refine WA.quiet 10 (d := 70) (.bool (decide ((n9 : Int) > 0))) KC (hi := rfl) (k := ?_)
                  refine WA.quiet 11 (d := 71) (.bool (decide ((n9 : Int) > 0))) KC (hi := rfl) (k := ?_)
                  refine WA.step 12 (hi := rfl) (k := ?_)
                  refine WL.store (v := .agg #[.int .i64 (n9 : Int), .int .i64 0, .int .i64 0, .int .i64 0, .int .i64 0, .int .i64 0, .int .i64 0, .bool false, .int .i64 0, .int .i64 0, .int .i64 0, .int .i64 0, .int .i64 0, .int .i64 0, .slice none 0 0]) (i := 0) (cs' := #[.int .i64 (n9 : Int), .int .i64 0, .int .i64 0, .int .i64 0, .int .i64 0, .int .i64 0, .int .i64 0, .bool false, .int .i64 0, .int .i64 0, .int .i64 0, .int .i64 0, .int .i64 0, .int .i64 0, .slice none 0 0]) hb4 (k := fun w268 hb269 k270 => ?_)
                  replace hr12 := hr12.keeps k270 n7
                  replace hb25 := k270.heap hb25 (Ne.symm n23)
                  replace K := K.trans' k270 (fun i hi e => absurd (e ▸ hi) (Nat.not_lt.2 z6))
                  replace KC := KC.trans' k270 (fun i hi e => e)
                  clear hb4
                  refine WL.nil ?_
                  refine WX.nxt KC ?_
                  refine WA.step 13 (hi := rfl) (k := ?_)
                  refine WL.op (d := 3) (.bool (decide ((n9 : Int) > 0))) (k := ?_)
                  refine WL.nil ?_
                  refine WX.nxtL ?_
                  refine WA.done (k := ?_)
                  clear KC
                  refine WX.seqN ?_
                  refine WC.ret ?_
                  refine WX.ret (rs := [.cell 2 32, .tmp 3]) [.agg #[.int .i64 (n9 : Int), .int .i64 0, .int .i64 0, .int .i64 0, .int .i64 0, .int .i64 0, .int .i64 0, .bool false, .int .i64 0, .int .i64 0, .int .i64 0, .int .i64 0, .int .i64 0, .int .i64 0, .slice none 0 0], .bool (decide ((n9 : Int) > 0))] (.tuple #[.agg #[.int .i64 (n9 : Int), .int .i64 0, .int .i64 0, .int .i64 0, .int .i64 0, .int .i64 0, .int .i64 0, .bool false, .int .i64 0, .int .i64 0, .int .i64 0, .int .i64 0, .int .i64 0, .int .i64 0, .slice none 0 0], .bool (decide ((n9 : Int) > 0))]) ⟨⟨_, (by kernel_rfl), ldN (T := 32) (i := 0) (m := 15) (l := [.int .i64 (n9 : Int), .int .i64 0, .int .i64 0, .int .i64 0, .int .i64 0, .int .i64 0, .int .i64 0, .bool false, .int .i64 0, .int .i64 0, .int .i64 0, .int .i64 0, .int .i64 0, .int .i64 0, .slice none 0 0]) hb269⟩, (by kernel_rfl), trivial⟩ (k := ?_)
                  exact ⟨(⟨⟨(n9 : Int), (⟨0, ⟨0, 0, 0, 0, 0⟩, false, 0, 0, 0⟩ : GOp), 0, 0, 0, []⟩, none, 0⟩ : GCmd), s10, decide ((n9 : Int) > 0), rfl, (ck_6' ph27 ph57 ph91 ph125 ph171 ph148 ph194 q11).iff ⟨fun h => decide_eq_true h.2, fun h => ⟨h267, of_decide_eq_true h⟩⟩, OwAt.nil, hr12, K, l14, (by simp [blk])⟩
                · refine WA.rw (t := 63) (v := .bool false) (congrArg Value.bool h267) (k := ?_)
                  refine WA.quietS 4 (d := 64) KC (hi := rfl) (k := ?_)
                  refine WA.quietS 5 (d := 65) KC (hi := rfl) (k := ?_)
                  refine WA.quiet 6 (d := 66) (.bool false) KC (hi := rfl) (k := ?_)
                  refine WA.quiet 7 (d := 67) (.bool false) KC (hi := rfl) (k := ?_)
                  refine WA.quietS 8 (d := 68) KC (hi := rfl) (k := ?_)
                  refine WA.quietS 9 (d := 69) KC (hi := rfl) (k := ?_)
                  refine WA.quietS 10 (d := 70) KC (hi := rfl) (k := ?_)
                  refine WA.quiet 11 (d := 71) (.bool false) KC (hi := rfl) (k := ?_)
                  refine WA.step 12 (hi := rfl) (k := ?_)
                  refine WL.store (v := .agg #[.int .i64 (n9 : Int), .int .i64 0, .int .i64 0, .int .i64 0, .int .i64 0, .int .i64 0, .int .i64 0, .bool false, .int .i64 0, .int .i64 0, .int .i64 0, .int .i64 0, .int .i64 0, .int .i64 0, .slice none 0 0]) (i := 0) (cs' := #[.int .i64 (n9 : Int), .int .i64 0, .int .i64 0, .int .i64 0, .int .i64 0, .int .i64 0, .int .i64 0, .bool false, .int .i64 0, .int .i64 0, .int .i64 0, .int .i64 0, .int .i64 0, .int .i64 0, .slice none 0 0]) hb4 (k := fun w271 hb272 k273 => ?_)
                  replace hr12 := hr12.keeps k273 n7
                  replace hb25 := k273.heap hb25 (Ne.symm n23)
                  replace K := K.trans' k273 (fun i hi e => absurd (e ▸ hi) (Nat.not_lt.2 z6))
                  replace KC := KC.trans' k273 (fun i hi e => e)
                  clear hb4
                  refine WL.nil ?_
                  refine WX.nxt KC ?_
                  refine WA.step 13 (hi := rfl) (k := ?_)
                  refine WL.op (d := 3) (.bool false) (k := ?_)
                  refine WL.nil ?_
                  refine WX.nxtL ?_
                  refine WA.done (k := ?_)
                  clear KC
                  refine WX.seqN ?_
                  refine WC.ret ?_
                  refine WX.ret (rs := [.cell 2 32, .tmp 3]) [.agg #[.int .i64 (n9 : Int), .int .i64 0, .int .i64 0, .int .i64 0, .int .i64 0, .int .i64 0, .int .i64 0, .bool false, .int .i64 0, .int .i64 0, .int .i64 0, .int .i64 0, .int .i64 0, .int .i64 0, .slice none 0 0], .bool false] (.tuple #[.agg #[.int .i64 (n9 : Int), .int .i64 0, .int .i64 0, .int .i64 0, .int .i64 0, .int .i64 0, .int .i64 0, .bool false, .int .i64 0, .int .i64 0, .int .i64 0, .int .i64 0, .int .i64 0, .int .i64 0, .slice none 0 0], .bool false]) ⟨⟨_, (by kernel_rfl), ldN (T := 32) (i := 0) (m := 15) (l := [.int .i64 (n9 : Int), .int .i64 0, .int .i64 0, .int .i64 0, .int .i64 0, .int .i64 0, .int .i64 0, .bool false, .int .i64 0, .int .i64 0, .int .i64 0, .int .i64 0, .int .i64 0, .int .i64 0, .slice none 0 0]) hb272⟩, (by kernel_rfl), trivial⟩ (k := ?_)
                  exact ⟨(⟨⟨(n9 : Int), (⟨0, ⟨0, 0, 0, 0, 0⟩, false, 0, 0, 0⟩ : GOp), 0, 0, 0, []⟩, none, 0⟩ : GCmd), s10, false, rfl, (ck_6' ph27 ph57 ph91 ph125 ph171 ph148 ph194 q11).f (by simp [h267]), OwAt.nil, hr12, K, l14, (by simp [blk])⟩

set_option maxRecDepth 100000 in
set_option maxHeartbeats 4000000 in
theorem u23read_c {b : Nat} {l : List UInt8} {w : World} (hr : QrAt b (some l) w) (hl : stLen (some l) ≤ 1000000000) : Calls Try.prog 35 #[.pointer (some ⟨b, 0, none⟩)] w fun e w' => ∃ (c : GCmd) (st : Option (List UInt8)), e = .returned c.val ∧ Got l c.p st (c.p.kind ≠ 0) ∧ OwAt fateC 2 50 c.A c.cap c.p.fs w' ∧ QrAt b st w' ∧ Keeps (fun k => k = b) w w' ∧ stLen st ≤ 1000000000 ∧ (∀ i, blk c.A = some i → w.heap.size ≤ i) := by
  have K : Keeps (fun k => k = b) w w := Keeps.refl _ w
  refine Calls.start Try.func35 rfl (by kernel_rfl) ?_
  refine WC.seq ?_
  refine WC.region ?_
  refine WL.new (d := 2) (T := 32) #[.int .i64 0, .int .i64 0, .int .i64 0, .int .i64 0, .int .i64 0, .int .i64 0, .int .i64 0, .bool false, .int .i64 0, .int .i64 0, .int .i64 0, .int .i64 0, .int .i64 0, .int .i64 0, .slice none 0 0] (k := fun b1 w2 g3 hb4 k5 => ?_)
  have z6 := Nat.le_trans K.size g3
  have n7 : b ≠ b1 := Nat.ne_of_lt (Nat.lt_of_lt_of_le hr.lt g3)
  replace hr := hr.keeps k5 id
  replace K := K.trans (k5.any _)
  refine WL.nil ?_
  refine WX.seqN ?_
  refine WC.seq ?_
  refine WC.region ?_
  refine WL.op (d := 9) (.pointer (some ⟨b, 0, none⟩)) (k := ?_)
  refine WL.callG (d := 10) (f := 56) (args := #[.pointer (some ⟨b, 0, none⟩), .int .i64 9]) (qInt_x 9 hr hl (by omega) (by omega)) (k := fun e_ w8 h_ => ?_)
  obtain ⟨n9, s10, q11, rfl, hr12, k13, l14, m15⟩ := h_
  refine ⟨_, rfl, ?_⟩
  replace hb4 := k13.heap hb4 (Ne.symm n7)
  replace K := K.trans' k13 (fun i hi e => e)
  clear hr
  refine WL.op (d := 11) (.agg #[.int .i64 (n9 : Int), .int .i64 0, .int .i64 0, .int .i64 0, .int .i64 0, .int .i64 0, .int .i64 0, .bool false, .int .i64 0, .int .i64 0, .int .i64 0, .int .i64 0, .int .i64 0, .int .i64 0, .slice none 0 0]) (k := ?_)
  refine WL.new (d := 3) (T := 32) #[.int .i64 0, .int .i64 0, .int .i64 0, .int .i64 0, .int .i64 0, .int .i64 0, .int .i64 0, .bool false, .int .i64 0, .int .i64 0, .int .i64 0, .int .i64 0, .int .i64 0, .int .i64 0, .slice none 0 0] (k := fun b16 w17 g18 hb19 k20 => ?_)
  have z21 := Nat.le_trans K.size g18
  have n22 : b ≠ b16 := Nat.ne_of_lt (Nat.lt_of_lt_of_le hr12.lt g18)
  have n23 : b1 ≠ b16 := Nat.ne_of_lt (Nat.lt_of_lt_of_le (lt_of_heap hb4) g18)
  replace hr12 := hr12.keeps k20 id
  replace hb4 := k20.heap hb4 id
  replace K := K.trans (k20.any _)
  refine WL.store (v := .agg #[.int .i64 (n9 : Int), .int .i64 0, .int .i64 0, .int .i64 0, .int .i64 0, .int .i64 0, .int .i64 0, .bool false, .int .i64 0, .int .i64 0, .int .i64 0, .int .i64 0, .int .i64 0, .int .i64 0, .slice none 0 0]) (i := 0) (cs' := #[.int .i64 (n9 : Int), .int .i64 0, .int .i64 0, .int .i64 0, .int .i64 0, .int .i64 0, .int .i64 0, .bool false, .int .i64 0, .int .i64 0, .int .i64 0, .int .i64 0, .int .i64 0, .int .i64 0, .slice none 0 0]) hb19 (k := fun w24 hb25 k26 => ?_)
  replace hr12 := hr12.keeps k26 n22
  replace hb4 := k26.heap hb4 n23
  replace K := K.trans' k26 (fun i hi e => absurd (e ▸ hi) (Nat.not_lt.2 z21))
  clear hb19
  refine WL.nil ?_
  refine WX.seqN ?_
  refine WC.seq ?_
  refine WC.seq ?_
  refine WC.region ?_
  refine WL.op (d := 12) (.pointer (some ⟨b16, 0, none⟩)) (k := ?_)
  refine WL.load (v := .int .i64 (n9 : Int)) (ld1 (T := 3) (i := 0) hb25) (k := ?_)
  refine WL.nil ?_
  refine WX.seqN ?_
  refine WC.block ?_
  refine WC.seq ?_
  refine WC.region ?_
  refine WL.op (d := 15) (.bool ((n9 : Int) == 1)) (k := ?_)
  refine WL.op (d := 14) (.bool ((n9 : Int) == 1)) (k := ?_)
  refine WL.nil ?_
  refine WX.seqN ?_
  refine WC.cond (b := (n9 : Int) == 1) (ht := fun h27 => ?_) (hf := fun h27 => ?_)
  · have ph27 := eq_of_beq h27
    refine WC.seq ?_
    refine WC.region ?_
    refine WL.op (d := 17) (.pointer (some ⟨b, 0, none⟩)) (k := ?_)
    refine WL.callG (d := 18) (f := 58) (args := #[.pointer (some ⟨b, 0, none⟩), .int .i64 43]) (qText_x 43 hr12 l14 (by omega) (by omega)) (k := fun e_ w28 h_ => ?_)
    obtain ⟨n29, s30, q31, rfl, hr32, k33, l34, m35⟩ := h_
    refine ⟨_, rfl, ?_⟩
    replace hb4 := k33.heap hb4 (Ne.symm n7)
    replace hb25 := k33.heap hb25 (Ne.symm n22)
    replace K := K.trans' k33 (fun i hi e => e)
    clear hr12
    have ln36 := rdText_le q31
    refine WL.callG (d := 19) (f := 57) (args := #[.string ⟨(n29).toArray⟩]) (u13Read_v n29 (by show List.length n29 ≤ _; first | omega | (simp; omega)) w28) (k := fun e_ w37 h_ => ⟨.tuple #[GOp.val (opVal (opOf n29)), .int .i64 (opErr (opOf n29))], h_.1, ?_⟩)
    have k38 := h_.2; clear h_
    replace hr32 := hr32.keeps k38 id
    replace hb4 := k38.heap hb4 id
    replace hb25 := k38.heap hb25 id
    replace K := K.trans (k38.any _)
    refine WL.op (d := 16) (.tuple #[GOp.val (opVal (opOf n29)), .int .i64 (opErr (opOf n29))]) (k := ?_)
    refine WL.op (d := 20) (GOp.val (opVal (opOf n29))) (k := ?_)
    refine WL.op (d := 21) (.int .i64 (opErr (opOf n29))) (k := ?_)
    refine WL.new (d := 4) (T := 29) #[.int .i64 0, .int .i64 0, .int .i64 0, .int .i64 0, .int .i64 0, .int .i64 0, .bool false, .int .i64 0, .int .i64 0, .int .i64 0] (k := fun b39 w40 g41 hb42 k43 => ?_)
    have z44 := Nat.le_trans K.size g41
    have n45 : b ≠ b39 := Nat.ne_of_lt (Nat.lt_of_lt_of_le hr32.lt g41)
    have n46 : b1 ≠ b39 := Nat.ne_of_lt (Nat.lt_of_lt_of_le (lt_of_heap hb4) g41)
    have n47 : b16 ≠ b39 := Nat.ne_of_lt (Nat.lt_of_lt_of_le (lt_of_heap hb25) g41)
    replace hr32 := hr32.keeps k43 id
    replace hb4 := k43.heap hb4 id
    replace hb25 := k43.heap hb25 id
    replace K := K.trans (k43.any _)
    refine WL.store (v := GOp.val (opVal (opOf n29))) (i := 0) (cs' := (Value.cells (GOp.val (opVal (opOf n29))))) hb42 (k := fun w48 hb49 k50 => ?_)
    replace hr32 := hr32.keeps k50 n45
    replace hb4 := k50.heap hb4 n46
    replace hb25 := k50.heap hb25 n47
    replace K := K.trans' k50 (fun i hi e => absurd (e ▸ hi) (Nat.not_lt.2 z44))
    clear hb42
    refine WL.op (d := 5) (.int .i64 (opErr (opOf n29))) (k := ?_)
    refine WL.nil ?_
    refine WX.seqN ?_
    refine WC.seq ?_
    refine WC.seq ?_
    refine WC.region ?_
    refine WL.op (d := 22) (.int .i64 (opErr (opOf n29))) (k := ?_)
    refine WL.op (d := 23) (.bool ((opErr (opOf n29)) != 0)) (k := ?_)
    refine WL.nil ?_
    refine WX.seqN ?_
    refine WC.cond (b := (opErr (opOf n29)) != 0) (ht := fun h51 => ?_) (hf := fun h51 => ?_)
    · have ph51 := bne_iff_ne.1 h51
      refine WC.seq ?_
      refine WC.region ?_
      refine WL.op (d := 24) (.agg #[.int .i64 0, .int .i64 0, .int .i64 0, .int .i64 0, .int .i64 0, .int .i64 0, .int .i64 0, .bool false, .int .i64 0, .int .i64 0, .int .i64 0, .int .i64 0, .int .i64 0, .int .i64 0, .slice none 0 0]) (k := ?_)
      refine WL.store (v := .agg #[.int .i64 0, .int .i64 0, .int .i64 0, .int .i64 0, .int .i64 0, .int .i64 0, .int .i64 0, .bool false, .int .i64 0, .int .i64 0, .int .i64 0, .int .i64 0, .int .i64 0, .int .i64 0, .slice none 0 0]) (i := 0) (cs' := #[.int .i64 0, .int .i64 0, .int .i64 0, .int .i64 0, .int .i64 0, .int .i64 0, .int .i64 0, .bool false, .int .i64 0, .int .i64 0, .int .i64 0, .int .i64 0, .int .i64 0, .int .i64 0, .slice none 0 0]) hb4 (k := fun w52 hb53 k54 => ?_)
      replace hr32 := hr32.keeps k54 n7
      replace hb25 := k54.heap hb25 (Ne.symm n23)
      replace hb49 := k54.heap hb49 (Ne.symm n46)
      replace K := K.trans' k54 (fun i hi e => absurd (e ▸ hi) (Nat.not_lt.2 z6))
      clear hb4
      refine WL.nil ?_
      refine WX.seqN ?_
      refine WC.ret ?_
      refine WX.seqR ?_
      refine WX.blockR ?_
      refine WX.seqR ?_
      refine WX.ret (rs := [.cell 2 32]) [.agg #[.int .i64 0, .int .i64 0, .int .i64 0, .int .i64 0, .int .i64 0, .int .i64 0, .int .i64 0, .bool false, .int .i64 0, .int .i64 0, .int .i64 0, .int .i64 0, .int .i64 0, .int .i64 0, .slice none 0 0]] (.agg #[.int .i64 0, .int .i64 0, .int .i64 0, .int .i64 0, .int .i64 0, .int .i64 0, .int .i64 0, .bool false, .int .i64 0, .int .i64 0, .int .i64 0, .int .i64 0, .int .i64 0, .int .i64 0, .slice none 0 0]) ⟨⟨_, (by kernel_rfl), ldN (T := 32) (i := 0) (m := 15) (l := [.int .i64 0, .int .i64 0, .int .i64 0, .int .i64 0, .int .i64 0, .int .i64 0, .int .i64 0, .bool false, .int .i64 0, .int .i64 0, .int .i64 0, .int .i64 0, .int .i64 0, .int .i64 0, .slice none 0 0]) hb53⟩, trivial⟩ (k := ?_)
      exact ⟨(⟨⟨0, (⟨0, ⟨0, 0, 0, 0, 0⟩, false, 0, 0, 0⟩ : GOp), 0, 0, 0, []⟩, none, 0⟩ : GCmd), s30, rfl, (ck_1 ph27 q11 q31).z (fun h => ph51 h.2) rfl, OwAt.nil, hr32, K, l34, (by simp [blk])⟩
    · have ph51 := of_bne_false h51
      refine WC.skip ?_
      refine WX.seqN ?_
      refine WC.region ?_
      refine WL.load (v := GOp.val (opVal (opOf n29))) (ldN (T := 29) (i := 0) (m := 10) (l := (Value.cells (GOp.val (opVal (opOf n29)))).toList) hb49) (k := ?_)
      refine WL.op (d := 26) (.pointer (some ⟨b16, 1, none⟩)) (k := ?_)
      refine WL.store (v := GOp.val (opVal (opOf n29))) (i := 1) (cs' := #[.int .i64 (n9 : Int), .int .i64 ((opVal (opOf n29)).kind), .int .i64 ((opVal (opOf n29)).task.id), .int .i64 ((opVal (opOf n29)).task.c), .int .i64 ((opVal (opOf n29)).task.d), .int .i64 ((opVal (opOf n29)).task.t), .int .i64 ((opVal (opOf n29)).task.m), .bool ((opVal (opOf n29)).sv), .int .i64 ((opVal (opOf n29)).id), .int .i64 ((opVal (opOf n29)).c), .int .i64 ((opVal (opOf n29)).m), .int .i64 0, .int .i64 0, .int .i64 0, .slice none 0 0]) hb25 (k := fun w55 hb56 k57 => ?_)
      replace hr32 := hr32.keeps k57 n22
      replace hb4 := k57.heap hb4 n23
      replace hb49 := k57.heap hb49 (Ne.symm n47)
      replace K := K.trans' k57 (fun i hi e => absurd (e ▸ hi) (Nat.not_lt.2 z21))
      clear hb25
      refine WL.nil ?_
      refine WX.blockN ?_
      refine WX.seqN ?_
      refine WC.seq ?_
      refine WC.seq ?_
      refine WC.region ?_
      refine WL.op (d := 75) (.pointer (some ⟨b, 0, none⟩)) (k := ?_)
      refine WL.op (d := 76) (.pointer (some ⟨b, 0, none⟩)) (k := ?_)
      refine WL.op (d := 77) (.pointer (some ⟨b, 1, none⟩)) (k := ?_)
      refine WL.load (v := .bool (!(s30.isSome))) (qr_bad (T := 4) hr32) (k := ?_)
      refine WL.nil ?_
      refine WX.seqN ?_
      refine WC.cond (b := !(s30.isSome)) (ht := fun h58 => ?_) (hf := fun h58 => ?_)
      · have h59 : (s30.isSome) = false := Bool.not_inj (y := false) h58
        refine WC.seq ?_
        refine WC.region ?_
        refine WL.op (d := 79) (.agg #[.int .i64 0, .int .i64 0, .int .i64 0, .int .i64 0, .int .i64 0, .int .i64 0, .int .i64 0, .bool false, .int .i64 0, .int .i64 0, .int .i64 0, .int .i64 0, .int .i64 0, .int .i64 0, .slice none 0 0]) (k := ?_)
        refine WL.store (v := .agg #[.int .i64 0, .int .i64 0, .int .i64 0, .int .i64 0, .int .i64 0, .int .i64 0, .int .i64 0, .bool false, .int .i64 0, .int .i64 0, .int .i64 0, .int .i64 0, .int .i64 0, .int .i64 0, .slice none 0 0]) (i := 0) (cs' := #[.int .i64 0, .int .i64 0, .int .i64 0, .int .i64 0, .int .i64 0, .int .i64 0, .int .i64 0, .bool false, .int .i64 0, .int .i64 0, .int .i64 0, .int .i64 0, .int .i64 0, .int .i64 0, .slice none 0 0]) hb4 (k := fun w60 hb61 k62 => ?_)
        replace hr32 := hr32.keeps k62 n7
        replace hb56 := k62.heap hb56 (Ne.symm n23)
        replace hb49 := k62.heap hb49 (Ne.symm n46)
        replace K := K.trans' k62 (fun i hi e => absurd (e ▸ hi) (Nat.not_lt.2 z6))
        clear hb4
        refine WL.nil ?_
        refine WX.seqN ?_
        refine WC.ret ?_
        refine WX.seqR ?_
        refine WX.ret (rs := [.cell 2 32]) [.agg #[.int .i64 0, .int .i64 0, .int .i64 0, .int .i64 0, .int .i64 0, .int .i64 0, .int .i64 0, .bool false, .int .i64 0, .int .i64 0, .int .i64 0, .int .i64 0, .int .i64 0, .int .i64 0, .slice none 0 0]] (.agg #[.int .i64 0, .int .i64 0, .int .i64 0, .int .i64 0, .int .i64 0, .int .i64 0, .int .i64 0, .bool false, .int .i64 0, .int .i64 0, .int .i64 0, .int .i64 0, .int .i64 0, .int .i64 0, .slice none 0 0]) ⟨⟨_, (by kernel_rfl), ldN (T := 32) (i := 0) (m := 15) (l := [.int .i64 0, .int .i64 0, .int .i64 0, .int .i64 0, .int .i64 0, .int .i64 0, .int .i64 0, .bool false, .int .i64 0, .int .i64 0, .int .i64 0, .int .i64 0, .int .i64 0, .int .i64 0, .slice none 0 0]) hb61⟩, trivial⟩ (k := ?_)
        exact ⟨(⟨⟨0, (⟨0, ⟨0, 0, 0, 0, 0⟩, false, 0, 0, 0⟩ : GOp), 0, 0, 0, []⟩, none, 0⟩ : GCmd), s30, rfl, (ck_1 ph27 q11 q31).z (by simp [h59]) rfl, OwAt.nil, hr32, K, l34, (by simp [blk])⟩
      · have h63 : (s30.isSome) = true := Bool.not_inj (y := true) h58
        refine WC.skip ?_
        refine WX.seqN ?_
        refine WC.seq ?_
        refine WC.region ?_
        refine WL.load (v := .agg #[.int .i64 (n9 : Int), .int .i64 ((opVal (opOf n29)).kind), .int .i64 ((opVal (opOf n29)).task.id), .int .i64 ((opVal (opOf n29)).task.c), .int .i64 ((opVal (opOf n29)).task.d), .int .i64 ((opVal (opOf n29)).task.t), .int .i64 ((opVal (opOf n29)).task.m), .bool ((opVal (opOf n29)).sv), .int .i64 ((opVal (opOf n29)).id), .int .i64 ((opVal (opOf n29)).c), .int .i64 ((opVal (opOf n29)).m), .int .i64 0, .int .i64 0, .int .i64 0, .slice none 0 0]) (ldN (T := 32) (i := 0) (m := 15) (l := [.int .i64 (n9 : Int), .int .i64 ((opVal (opOf n29)).kind), .int .i64 ((opVal (opOf n29)).task.id), .int .i64 ((opVal (opOf n29)).task.c), .int .i64 ((opVal (opOf n29)).task.d), .int .i64 ((opVal (opOf n29)).task.t), .int .i64 ((opVal (opOf n29)).task.m), .bool ((opVal (opOf n29)).sv), .int .i64 ((opVal (opOf n29)).id), .int .i64 ((opVal (opOf n29)).c), .int .i64 ((opVal (opOf n29)).m), .int .i64 0, .int .i64 0, .int .i64 0, .slice none 0 0]) hb56) (k := ?_)
        refine WL.store (v := .agg #[.int .i64 (n9 : Int), .int .i64 ((opVal (opOf n29)).kind), .int .i64 ((opVal (opOf n29)).task.id), .int .i64 ((opVal (opOf n29)).task.c), .int .i64 ((opVal (opOf n29)).task.d), .int .i64 ((opVal (opOf n29)).task.t), .int .i64 ((opVal (opOf n29)).task.m), .bool ((opVal (opOf n29)).sv), .int .i64 ((opVal (opOf n29)).id), .int .i64 ((opVal (opOf n29)).c), .int .i64 ((opVal (opOf n29)).m), .int .i64 0, .int .i64 0, .int .i64 0, .slice none 0 0]) (i := 0) (cs' := #[.int .i64 (n9 : Int), .int .i64 ((opVal (opOf n29)).kind), .int .i64 ((opVal (opOf n29)).task.id), .int .i64 ((opVal (opOf n29)).task.c), .int .i64 ((opVal (opOf n29)).task.d), .int .i64 ((opVal (opOf n29)).task.t), .int .i64 ((opVal (opOf n29)).task.m), .bool ((opVal (opOf n29)).sv), .int .i64 ((opVal (opOf n29)).id), .int .i64 ((opVal (opOf n29)).c), .int .i64 ((opVal (opOf n29)).m), .int .i64 0, .int .i64 0, .int .i64 0, .slice none 0 0]) hb4 (k := fun w64 hb65 k66 => ?_)
        replace hr32 := hr32.keeps k66 n7
        replace hb56 := k66.heap hb56 (Ne.symm n23)
        replace hb49 := k66.heap hb49 (Ne.symm n46)
        replace K := K.trans' k66 (fun i hi e => absurd (e ▸ hi) (Nat.not_lt.2 z6))
        clear hb4
        refine WL.nil ?_
        refine WX.seqN ?_
        refine WC.ret ?_
        refine WX.ret (rs := [.cell 2 32]) [.agg #[.int .i64 (n9 : Int), .int .i64 ((opVal (opOf n29)).kind), .int .i64 ((opVal (opOf n29)).task.id), .int .i64 ((opVal (opOf n29)).task.c), .int .i64 ((opVal (opOf n29)).task.d), .int .i64 ((opVal (opOf n29)).task.t), .int .i64 ((opVal (opOf n29)).task.m), .bool ((opVal (opOf n29)).sv), .int .i64 ((opVal (opOf n29)).id), .int .i64 ((opVal (opOf n29)).c), .int .i64 ((opVal (opOf n29)).m), .int .i64 0, .int .i64 0, .int .i64 0, .slice none 0 0]] (.agg #[.int .i64 (n9 : Int), .int .i64 ((opVal (opOf n29)).kind), .int .i64 ((opVal (opOf n29)).task.id), .int .i64 ((opVal (opOf n29)).task.c), .int .i64 ((opVal (opOf n29)).task.d), .int .i64 ((opVal (opOf n29)).task.t), .int .i64 ((opVal (opOf n29)).task.m), .bool ((opVal (opOf n29)).sv), .int .i64 ((opVal (opOf n29)).id), .int .i64 ((opVal (opOf n29)).c), .int .i64 ((opVal (opOf n29)).m), .int .i64 0, .int .i64 0, .int .i64 0, .slice none 0 0]) ⟨⟨_, (by kernel_rfl), ldN (T := 32) (i := 0) (m := 15) (l := [.int .i64 (n9 : Int), .int .i64 ((opVal (opOf n29)).kind), .int .i64 ((opVal (opOf n29)).task.id), .int .i64 ((opVal (opOf n29)).task.c), .int .i64 ((opVal (opOf n29)).task.d), .int .i64 ((opVal (opOf n29)).task.t), .int .i64 ((opVal (opOf n29)).task.m), .bool ((opVal (opOf n29)).sv), .int .i64 ((opVal (opOf n29)).id), .int .i64 ((opVal (opOf n29)).c), .int .i64 ((opVal (opOf n29)).m), .int .i64 0, .int .i64 0, .int .i64 0, .slice none 0 0]) hb65⟩, trivial⟩ (k := ?_)
        exact ⟨(⟨⟨(n9 : Int), (opVal (opOf n29)), 0, 0, 0, []⟩, none, 0⟩ : GCmd), s30, rfl, (ck_1 ph27 q11 q31).kd ⟨h63, by omega⟩ (by simp only; omega), OwAt.nil, hr32, K, l34, (by simp [blk])⟩
  · have ph27 := ne_of_beq_false h27
    refine WC.seq ?_
    refine WC.seq ?_
    refine WC.region ?_
    refine WL.op (d := 28) (.bool ((n9 : Int) == 2)) (k := ?_)
    refine WL.op (d := 27) (.bool ((n9 : Int) == 2)) (k := ?_)
    refine WL.nil ?_
    refine WX.seqN ?_
    refine WC.cond (b := (n9 : Int) == 2) (ht := fun h67 => ?_) (hf := fun h67 => ?_)
    · have ph67 := eq_of_beq h67
      refine WC.skip ?_
      refine WX.seqN ?_
      refine WC.rw (t := 27) (v := .bool true) (congrArg Value.bool h67) (k := ?_)
      refine WC.condT (k := ?_)
      refine WC.seq ?_
      refine WC.region ?_
      refine WL.op (d := 30) (.pointer (some ⟨b, 0, none⟩)) (k := ?_)
      refine WL.callG (d := 31) (f := 56) (args := #[.pointer (some ⟨b, 0, none⟩), .int .i64 1023]) (qInt_x 1023 hr12 l14 (by omega) (by omega)) (k := fun e_ w68 h_ => ?_)
      obtain ⟨n69, s70, q71, rfl, hr72, k73, l74, m75⟩ := h_
      refine ⟨_, rfl, ?_⟩
      replace hb4 := k73.heap hb4 (Ne.symm n7)
      replace hb25 := k73.heap hb25 (Ne.symm n22)
      replace K := K.trans' k73 (fun i hi e => e)
      clear hr12
      refine WL.op (d := 32) (.pointer (some ⟨b16, 11, none⟩)) (k := ?_)
      refine WL.store (v := .int .i64 (n69 : Int)) (i := 11) (cs' := #[.int .i64 (n9 : Int), .int .i64 0, .int .i64 0, .int .i64 0, .int .i64 0, .int .i64 0, .int .i64 0, .bool false, .int .i64 0, .int .i64 0, .int .i64 0, .int .i64 (n69 : Int), .int .i64 0, .int .i64 0, .slice none 0 0]) hb25 (k := fun w76 hb77 k78 => ?_)
      replace hr72 := hr72.keeps k78 n22
      replace hb4 := k78.heap hb4 n23
      replace K := K.trans' k78 (fun i hi e => absurd (e ▸ hi) (Nat.not_lt.2 z21))
      clear hb25
      refine WL.nil ?_
      refine WX.seqN ?_
      refine WC.region ?_
      refine WL.op (d := 33) (.pointer (some ⟨b, 0, none⟩)) (k := ?_)
      refine WL.callG (d := 34) (f := 59) (args := #[.pointer (some ⟨b, 0, none⟩), .int .u64 2147483648]) (qNum_x 2147483648 hr72 l74 (by omega) (by omega)) (k := fun e_ w79 h_ => ?_)
      obtain ⟨n80, s81, q82, rfl, hr83, k84, l85, m86⟩ := h_
      refine ⟨_, rfl, ?_⟩
      replace hb4 := k84.heap hb4 (Ne.symm n7)
      replace hb77 := k84.heap hb77 (Ne.symm n22)
      replace K := K.trans' k84 (fun i hi e => e)
      clear hr72
      refine WL.opE (d := 35) (.int .i64 (IntKind.i64.wrap (n80 : Int))) (v := .int .i64 (n80 : Int)) (congrArg (Value.int .i64) (IntWalk.i64_in _ (by omega))) (k := ?_)
      refine WL.op (d := 36) (.pointer (some ⟨b16, 12, none⟩)) (k := ?_)
      refine WL.store (v := .int .i64 (n80 : Int)) (i := 12) (cs' := #[.int .i64 (n9 : Int), .int .i64 0, .int .i64 0, .int .i64 0, .int .i64 0, .int .i64 0, .int .i64 0, .bool false, .int .i64 0, .int .i64 0, .int .i64 0, .int .i64 (n69 : Int), .int .i64 (n80 : Int), .int .i64 0, .slice none 0 0]) hb77 (k := fun w87 hb88 k89 => ?_)
      replace hr83 := hr83.keeps k89 n22
      replace hb4 := k89.heap hb4 n23
      replace K := K.trans' k89 (fun i hi e => absurd (e ▸ hi) (Nat.not_lt.2 z21))
      clear hb77
      refine WL.nil ?_
      refine WX.blockN ?_
      refine WX.seqN ?_
      refine WC.seq ?_
      refine WC.seq ?_
      refine WC.region ?_
      refine WL.op (d := 75) (.pointer (some ⟨b, 0, none⟩)) (k := ?_)
      refine WL.op (d := 76) (.pointer (some ⟨b, 0, none⟩)) (k := ?_)
      refine WL.op (d := 77) (.pointer (some ⟨b, 1, none⟩)) (k := ?_)
      refine WL.load (v := .bool (!(s81.isSome))) (qr_bad (T := 4) hr83) (k := ?_)
      refine WL.nil ?_
      refine WX.seqN ?_
      refine WC.cond (b := !(s81.isSome)) (ht := fun h90 => ?_) (hf := fun h90 => ?_)
      · have h91 : (s81.isSome) = false := Bool.not_inj (y := false) h90
        refine WC.seq ?_
        refine WC.region ?_
        refine WL.op (d := 79) (.agg #[.int .i64 0, .int .i64 0, .int .i64 0, .int .i64 0, .int .i64 0, .int .i64 0, .int .i64 0, .bool false, .int .i64 0, .int .i64 0, .int .i64 0, .int .i64 0, .int .i64 0, .int .i64 0, .slice none 0 0]) (k := ?_)
        refine WL.store (v := .agg #[.int .i64 0, .int .i64 0, .int .i64 0, .int .i64 0, .int .i64 0, .int .i64 0, .int .i64 0, .bool false, .int .i64 0, .int .i64 0, .int .i64 0, .int .i64 0, .int .i64 0, .int .i64 0, .slice none 0 0]) (i := 0) (cs' := #[.int .i64 0, .int .i64 0, .int .i64 0, .int .i64 0, .int .i64 0, .int .i64 0, .int .i64 0, .bool false, .int .i64 0, .int .i64 0, .int .i64 0, .int .i64 0, .int .i64 0, .int .i64 0, .slice none 0 0]) hb4 (k := fun w92 hb93 k94 => ?_)
        replace hr83 := hr83.keeps k94 n7
        replace hb88 := k94.heap hb88 (Ne.symm n23)
        replace K := K.trans' k94 (fun i hi e => absurd (e ▸ hi) (Nat.not_lt.2 z6))
        clear hb4
        refine WL.nil ?_
        refine WX.seqN ?_
        refine WC.ret ?_
        refine WX.seqR ?_
        refine WX.ret (rs := [.cell 2 32]) [.agg #[.int .i64 0, .int .i64 0, .int .i64 0, .int .i64 0, .int .i64 0, .int .i64 0, .int .i64 0, .bool false, .int .i64 0, .int .i64 0, .int .i64 0, .int .i64 0, .int .i64 0, .int .i64 0, .slice none 0 0]] (.agg #[.int .i64 0, .int .i64 0, .int .i64 0, .int .i64 0, .int .i64 0, .int .i64 0, .int .i64 0, .bool false, .int .i64 0, .int .i64 0, .int .i64 0, .int .i64 0, .int .i64 0, .int .i64 0, .slice none 0 0]) ⟨⟨_, (by kernel_rfl), ldN (T := 32) (i := 0) (m := 15) (l := [.int .i64 0, .int .i64 0, .int .i64 0, .int .i64 0, .int .i64 0, .int .i64 0, .int .i64 0, .bool false, .int .i64 0, .int .i64 0, .int .i64 0, .int .i64 0, .int .i64 0, .int .i64 0, .slice none 0 0]) hb93⟩, trivial⟩ (k := ?_)
        exact ⟨(⟨⟨0, (⟨0, ⟨0, 0, 0, 0, 0⟩, false, 0, 0, 0⟩ : GOp), 0, 0, 0, []⟩, none, 0⟩ : GCmd), s81, rfl, (ck_2 (.inl ph67) q11 q71 q82).z (by simp [h91]) rfl, OwAt.nil, hr83, K, l85, (by simp [blk])⟩
      · have h95 : (s81.isSome) = true := Bool.not_inj (y := true) h90
        refine WC.skip ?_
        refine WX.seqN ?_
        refine WC.seq ?_
        refine WC.region ?_
        refine WL.load (v := .agg #[.int .i64 (n9 : Int), .int .i64 0, .int .i64 0, .int .i64 0, .int .i64 0, .int .i64 0, .int .i64 0, .bool false, .int .i64 0, .int .i64 0, .int .i64 0, .int .i64 (n69 : Int), .int .i64 (n80 : Int), .int .i64 0, .slice none 0 0]) (ldN (T := 32) (i := 0) (m := 15) (l := [.int .i64 (n9 : Int), .int .i64 0, .int .i64 0, .int .i64 0, .int .i64 0, .int .i64 0, .int .i64 0, .bool false, .int .i64 0, .int .i64 0, .int .i64 0, .int .i64 (n69 : Int), .int .i64 (n80 : Int), .int .i64 0, .slice none 0 0]) hb88) (k := ?_)
        refine WL.store (v := .agg #[.int .i64 (n9 : Int), .int .i64 0, .int .i64 0, .int .i64 0, .int .i64 0, .int .i64 0, .int .i64 0, .bool false, .int .i64 0, .int .i64 0, .int .i64 0, .int .i64 (n69 : Int), .int .i64 (n80 : Int), .int .i64 0, .slice none 0 0]) (i := 0) (cs' := #[.int .i64 (n9 : Int), .int .i64 0, .int .i64 0, .int .i64 0, .int .i64 0, .int .i64 0, .int .i64 0, .bool false, .int .i64 0, .int .i64 0, .int .i64 0, .int .i64 (n69 : Int), .int .i64 (n80 : Int), .int .i64 0, .slice none 0 0]) hb4 (k := fun w96 hb97 k98 => ?_)
        replace hr83 := hr83.keeps k98 n7
        replace hb88 := k98.heap hb88 (Ne.symm n23)
        replace K := K.trans' k98 (fun i hi e => absurd (e ▸ hi) (Nat.not_lt.2 z6))
        clear hb4
        refine WL.nil ?_
        refine WX.seqN ?_
        refine WC.ret ?_
        refine WX.ret (rs := [.cell 2 32]) [.agg #[.int .i64 (n9 : Int), .int .i64 0, .int .i64 0, .int .i64 0, .int .i64 0, .int .i64 0, .int .i64 0, .bool false, .int .i64 0, .int .i64 0, .int .i64 0, .int .i64 (n69 : Int), .int .i64 (n80 : Int), .int .i64 0, .slice none 0 0]] (.agg #[.int .i64 (n9 : Int), .int .i64 0, .int .i64 0, .int .i64 0, .int .i64 0, .int .i64 0, .int .i64 0, .bool false, .int .i64 0, .int .i64 0, .int .i64 0, .int .i64 (n69 : Int), .int .i64 (n80 : Int), .int .i64 0, .slice none 0 0]) ⟨⟨_, (by kernel_rfl), ldN (T := 32) (i := 0) (m := 15) (l := [.int .i64 (n9 : Int), .int .i64 0, .int .i64 0, .int .i64 0, .int .i64 0, .int .i64 0, .int .i64 0, .bool false, .int .i64 0, .int .i64 0, .int .i64 0, .int .i64 (n69 : Int), .int .i64 (n80 : Int), .int .i64 0, .slice none 0 0]) hb97⟩, trivial⟩ (k := ?_)
        exact ⟨(⟨⟨(n9 : Int), (⟨0, ⟨0, 0, 0, 0, 0⟩, false, 0, 0, 0⟩ : GOp), (n69 : Int), (n80 : Int), 0, []⟩, none, 0⟩ : GCmd), s81, rfl, (ck_2 (.inl ph67) q11 q71 q82).kd h95 (by simp only; omega), OwAt.nil, hr83, K, l85, (by simp [blk])⟩
    · have ph67 := ne_of_beq_false h67
      refine WC.region ?_
      refine WL.op (d := 29) (.bool ((n9 : Int) == 3)) (k := ?_)
      refine WL.op (d := 27) (.bool ((n9 : Int) == 3)) (k := ?_)
      refine WL.nil ?_
      refine WX.seqN ?_
      refine WC.cond (b := (n9 : Int) == 3) (ht := fun h99 => ?_) (hf := fun h99 => ?_)
      · have ph99 := eq_of_beq h99
        refine WC.seq ?_
        refine WC.region ?_
        refine WL.op (d := 30) (.pointer (some ⟨b, 0, none⟩)) (k := ?_)
        refine WL.callG (d := 31) (f := 56) (args := #[.pointer (some ⟨b, 0, none⟩), .int .i64 1023]) (qInt_x 1023 hr12 l14 (by omega) (by omega)) (k := fun e_ w100 h_ => ?_)
        obtain ⟨n101, s102, q103, rfl, hr104, k105, l106, m107⟩ := h_
        refine ⟨_, rfl, ?_⟩
        replace hb4 := k105.heap hb4 (Ne.symm n7)
        replace hb25 := k105.heap hb25 (Ne.symm n22)
        replace K := K.trans' k105 (fun i hi e => e)
        clear hr12
        refine WL.op (d := 32) (.pointer (some ⟨b16, 11, none⟩)) (k := ?_)
        refine WL.store (v := .int .i64 (n101 : Int)) (i := 11) (cs' := #[.int .i64 (n9 : Int), .int .i64 0, .int .i64 0, .int .i64 0, .int .i64 0, .int .i64 0, .int .i64 0, .bool false, .int .i64 0, .int .i64 0, .int .i64 0, .int .i64 (n101 : Int), .int .i64 0, .int .i64 0, .slice none 0 0]) hb25 (k := fun w108 hb109 k110 => ?_)
        replace hr104 := hr104.keeps k110 n22
        replace hb4 := k110.heap hb4 n23
        replace K := K.trans' k110 (fun i hi e => absurd (e ▸ hi) (Nat.not_lt.2 z21))
        clear hb25
        refine WL.nil ?_
        refine WX.seqN ?_
        refine WC.region ?_
        refine WL.op (d := 33) (.pointer (some ⟨b, 0, none⟩)) (k := ?_)
        refine WL.callG (d := 34) (f := 59) (args := #[.pointer (some ⟨b, 0, none⟩), .int .u64 2147483648]) (qNum_x 2147483648 hr104 l106 (by omega) (by omega)) (k := fun e_ w111 h_ => ?_)
        obtain ⟨n112, s113, q114, rfl, hr115, k116, l117, m118⟩ := h_
        refine ⟨_, rfl, ?_⟩
        replace hb4 := k116.heap hb4 (Ne.symm n7)
        replace hb109 := k116.heap hb109 (Ne.symm n22)
        replace K := K.trans' k116 (fun i hi e => e)
        clear hr104
        refine WL.opE (d := 35) (.int .i64 (IntKind.i64.wrap (n112 : Int))) (v := .int .i64 (n112 : Int)) (congrArg (Value.int .i64) (IntWalk.i64_in _ (by omega))) (k := ?_)
        refine WL.op (d := 36) (.pointer (some ⟨b16, 12, none⟩)) (k := ?_)
        refine WL.store (v := .int .i64 (n112 : Int)) (i := 12) (cs' := #[.int .i64 (n9 : Int), .int .i64 0, .int .i64 0, .int .i64 0, .int .i64 0, .int .i64 0, .int .i64 0, .bool false, .int .i64 0, .int .i64 0, .int .i64 0, .int .i64 (n101 : Int), .int .i64 (n112 : Int), .int .i64 0, .slice none 0 0]) hb109 (k := fun w119 hb120 k121 => ?_)
        replace hr115 := hr115.keeps k121 n22
        replace hb4 := k121.heap hb4 n23
        replace K := K.trans' k121 (fun i hi e => absurd (e ▸ hi) (Nat.not_lt.2 z21))
        clear hb109
        refine WL.nil ?_
        refine WX.blockN ?_
        refine WX.seqN ?_
        refine WC.seq ?_
        refine WC.seq ?_
        refine WC.region ?_
        refine WL.op (d := 75) (.pointer (some ⟨b, 0, none⟩)) (k := ?_)
        refine WL.op (d := 76) (.pointer (some ⟨b, 0, none⟩)) (k := ?_)
        refine WL.op (d := 77) (.pointer (some ⟨b, 1, none⟩)) (k := ?_)
        refine WL.load (v := .bool (!(s113.isSome))) (qr_bad (T := 4) hr115) (k := ?_)
        refine WL.nil ?_
        refine WX.seqN ?_
        refine WC.cond (b := !(s113.isSome)) (ht := fun h122 => ?_) (hf := fun h122 => ?_)
        · have h123 : (s113.isSome) = false := Bool.not_inj (y := false) h122
          refine WC.seq ?_
          refine WC.region ?_
          refine WL.op (d := 79) (.agg #[.int .i64 0, .int .i64 0, .int .i64 0, .int .i64 0, .int .i64 0, .int .i64 0, .int .i64 0, .bool false, .int .i64 0, .int .i64 0, .int .i64 0, .int .i64 0, .int .i64 0, .int .i64 0, .slice none 0 0]) (k := ?_)
          refine WL.store (v := .agg #[.int .i64 0, .int .i64 0, .int .i64 0, .int .i64 0, .int .i64 0, .int .i64 0, .int .i64 0, .bool false, .int .i64 0, .int .i64 0, .int .i64 0, .int .i64 0, .int .i64 0, .int .i64 0, .slice none 0 0]) (i := 0) (cs' := #[.int .i64 0, .int .i64 0, .int .i64 0, .int .i64 0, .int .i64 0, .int .i64 0, .int .i64 0, .bool false, .int .i64 0, .int .i64 0, .int .i64 0, .int .i64 0, .int .i64 0, .int .i64 0, .slice none 0 0]) hb4 (k := fun w124 hb125 k126 => ?_)
          replace hr115 := hr115.keeps k126 n7
          replace hb120 := k126.heap hb120 (Ne.symm n23)
          replace K := K.trans' k126 (fun i hi e => absurd (e ▸ hi) (Nat.not_lt.2 z6))
          clear hb4
          refine WL.nil ?_
          refine WX.seqN ?_
          refine WC.ret ?_
          refine WX.seqR ?_
          refine WX.ret (rs := [.cell 2 32]) [.agg #[.int .i64 0, .int .i64 0, .int .i64 0, .int .i64 0, .int .i64 0, .int .i64 0, .int .i64 0, .bool false, .int .i64 0, .int .i64 0, .int .i64 0, .int .i64 0, .int .i64 0, .int .i64 0, .slice none 0 0]] (.agg #[.int .i64 0, .int .i64 0, .int .i64 0, .int .i64 0, .int .i64 0, .int .i64 0, .int .i64 0, .bool false, .int .i64 0, .int .i64 0, .int .i64 0, .int .i64 0, .int .i64 0, .int .i64 0, .slice none 0 0]) ⟨⟨_, (by kernel_rfl), ldN (T := 32) (i := 0) (m := 15) (l := [.int .i64 0, .int .i64 0, .int .i64 0, .int .i64 0, .int .i64 0, .int .i64 0, .int .i64 0, .bool false, .int .i64 0, .int .i64 0, .int .i64 0, .int .i64 0, .int .i64 0, .int .i64 0, .slice none 0 0]) hb125⟩, trivial⟩ (k := ?_)
          exact ⟨(⟨⟨0, (⟨0, ⟨0, 0, 0, 0, 0⟩, false, 0, 0, 0⟩ : GOp), 0, 0, 0, []⟩, none, 0⟩ : GCmd), s113, rfl, (ck_2 (.inr ph99) q11 q103 q114).z (by simp [h123]) rfl, OwAt.nil, hr115, K, l117, (by simp [blk])⟩
        · have h127 : (s113.isSome) = true := Bool.not_inj (y := true) h122
          refine WC.skip ?_
          refine WX.seqN ?_
          refine WC.seq ?_
          refine WC.region ?_
          refine WL.load (v := .agg #[.int .i64 (n9 : Int), .int .i64 0, .int .i64 0, .int .i64 0, .int .i64 0, .int .i64 0, .int .i64 0, .bool false, .int .i64 0, .int .i64 0, .int .i64 0, .int .i64 (n101 : Int), .int .i64 (n112 : Int), .int .i64 0, .slice none 0 0]) (ldN (T := 32) (i := 0) (m := 15) (l := [.int .i64 (n9 : Int), .int .i64 0, .int .i64 0, .int .i64 0, .int .i64 0, .int .i64 0, .int .i64 0, .bool false, .int .i64 0, .int .i64 0, .int .i64 0, .int .i64 (n101 : Int), .int .i64 (n112 : Int), .int .i64 0, .slice none 0 0]) hb120) (k := ?_)
          refine WL.store (v := .agg #[.int .i64 (n9 : Int), .int .i64 0, .int .i64 0, .int .i64 0, .int .i64 0, .int .i64 0, .int .i64 0, .bool false, .int .i64 0, .int .i64 0, .int .i64 0, .int .i64 (n101 : Int), .int .i64 (n112 : Int), .int .i64 0, .slice none 0 0]) (i := 0) (cs' := #[.int .i64 (n9 : Int), .int .i64 0, .int .i64 0, .int .i64 0, .int .i64 0, .int .i64 0, .int .i64 0, .bool false, .int .i64 0, .int .i64 0, .int .i64 0, .int .i64 (n101 : Int), .int .i64 (n112 : Int), .int .i64 0, .slice none 0 0]) hb4 (k := fun w128 hb129 k130 => ?_)
          replace hr115 := hr115.keeps k130 n7
          replace hb120 := k130.heap hb120 (Ne.symm n23)
          replace K := K.trans' k130 (fun i hi e => absurd (e ▸ hi) (Nat.not_lt.2 z6))
          clear hb4
          refine WL.nil ?_
          refine WX.seqN ?_
          refine WC.ret ?_
          refine WX.ret (rs := [.cell 2 32]) [.agg #[.int .i64 (n9 : Int), .int .i64 0, .int .i64 0, .int .i64 0, .int .i64 0, .int .i64 0, .int .i64 0, .bool false, .int .i64 0, .int .i64 0, .int .i64 0, .int .i64 (n101 : Int), .int .i64 (n112 : Int), .int .i64 0, .slice none 0 0]] (.agg #[.int .i64 (n9 : Int), .int .i64 0, .int .i64 0, .int .i64 0, .int .i64 0, .int .i64 0, .int .i64 0, .bool false, .int .i64 0, .int .i64 0, .int .i64 0, .int .i64 (n101 : Int), .int .i64 (n112 : Int), .int .i64 0, .slice none 0 0]) ⟨⟨_, (by kernel_rfl), ldN (T := 32) (i := 0) (m := 15) (l := [.int .i64 (n9 : Int), .int .i64 0, .int .i64 0, .int .i64 0, .int .i64 0, .int .i64 0, .int .i64 0, .bool false, .int .i64 0, .int .i64 0, .int .i64 0, .int .i64 (n101 : Int), .int .i64 (n112 : Int), .int .i64 0, .slice none 0 0]) hb129⟩, trivial⟩ (k := ?_)
          exact ⟨(⟨⟨(n9 : Int), (⟨0, ⟨0, 0, 0, 0, 0⟩, false, 0, 0, 0⟩ : GOp), (n101 : Int), (n112 : Int), 0, []⟩, none, 0⟩ : GCmd), s113, rfl, (ck_2 (.inr ph99) q11 q103 q114).kd h127 (by simp only; omega), OwAt.nil, hr115, K, l117, (by simp [blk])⟩
      · have ph99 := ne_of_beq_false h99
        refine WC.seq ?_
        refine WC.seq ?_
        refine WC.region ?_
        refine WL.op (d := 38) (.bool ((n9 : Int) == 4)) (k := ?_)
        refine WL.op (d := 37) (.bool ((n9 : Int) == 4)) (k := ?_)
        refine WL.nil ?_
        refine WX.seqN ?_
        refine WC.cond (b := (n9 : Int) == 4) (ht := fun h131 => ?_) (hf := fun h131 => ?_)
        · have ph131 := eq_of_beq h131
          refine WC.skip ?_
          refine WX.seqN ?_
          refine WC.rw (t := 37) (v := .bool true) (congrArg Value.bool h131) (k := ?_)
          refine WC.condT (k := ?_)
          refine WC.region ?_
          refine WL.op (d := 40) (.pointer (some ⟨b, 0, none⟩)) (k := ?_)
          refine WL.callG (d := 41) (f := 56) (args := #[.pointer (some ⟨b, 0, none⟩), .int .i64 1048576]) (qInt_x 1048576 hr12 l14 (by omega) (by omega)) (k := fun e_ w132 h_ => ?_)
          obtain ⟨n133, s134, q135, rfl, hr136, k137, l138, m139⟩ := h_
          refine ⟨_, rfl, ?_⟩
          replace hb4 := k137.heap hb4 (Ne.symm n7)
          replace hb25 := k137.heap hb25 (Ne.symm n22)
          replace K := K.trans' k137 (fun i hi e => e)
          clear hr12
          refine WL.op (d := 42) (.pointer (some ⟨b16, 13, none⟩)) (k := ?_)
          refine WL.store (v := .int .i64 (n133 : Int)) (i := 13) (cs' := #[.int .i64 (n9 : Int), .int .i64 0, .int .i64 0, .int .i64 0, .int .i64 0, .int .i64 0, .int .i64 0, .bool false, .int .i64 0, .int .i64 0, .int .i64 0, .int .i64 0, .int .i64 0, .int .i64 (n133 : Int), .slice none 0 0]) hb25 (k := fun w140 hb141 k142 => ?_)
          replace hr136 := hr136.keeps k142 n22
          replace hb4 := k142.heap hb4 n23
          replace K := K.trans' k142 (fun i hi e => absurd (e ▸ hi) (Nat.not_lt.2 z21))
          clear hb25
          refine WL.nil ?_
          refine WX.blockN ?_
          refine WX.seqN ?_
          refine WC.seq ?_
          refine WC.seq ?_
          refine WC.region ?_
          refine WL.op (d := 75) (.pointer (some ⟨b, 0, none⟩)) (k := ?_)
          refine WL.op (d := 76) (.pointer (some ⟨b, 0, none⟩)) (k := ?_)
          refine WL.op (d := 77) (.pointer (some ⟨b, 1, none⟩)) (k := ?_)
          refine WL.load (v := .bool (!(s134.isSome))) (qr_bad (T := 4) hr136) (k := ?_)
          refine WL.nil ?_
          refine WX.seqN ?_
          refine WC.cond (b := !(s134.isSome)) (ht := fun h143 => ?_) (hf := fun h143 => ?_)
          · have h144 : (s134.isSome) = false := Bool.not_inj (y := false) h143
            refine WC.seq ?_
            refine WC.region ?_
            refine WL.op (d := 79) (.agg #[.int .i64 0, .int .i64 0, .int .i64 0, .int .i64 0, .int .i64 0, .int .i64 0, .int .i64 0, .bool false, .int .i64 0, .int .i64 0, .int .i64 0, .int .i64 0, .int .i64 0, .int .i64 0, .slice none 0 0]) (k := ?_)
            refine WL.store (v := .agg #[.int .i64 0, .int .i64 0, .int .i64 0, .int .i64 0, .int .i64 0, .int .i64 0, .int .i64 0, .bool false, .int .i64 0, .int .i64 0, .int .i64 0, .int .i64 0, .int .i64 0, .int .i64 0, .slice none 0 0]) (i := 0) (cs' := #[.int .i64 0, .int .i64 0, .int .i64 0, .int .i64 0, .int .i64 0, .int .i64 0, .int .i64 0, .bool false, .int .i64 0, .int .i64 0, .int .i64 0, .int .i64 0, .int .i64 0, .int .i64 0, .slice none 0 0]) hb4 (k := fun w145 hb146 k147 => ?_)
            replace hr136 := hr136.keeps k147 n7
            replace hb141 := k147.heap hb141 (Ne.symm n23)
            replace K := K.trans' k147 (fun i hi e => absurd (e ▸ hi) (Nat.not_lt.2 z6))
            clear hb4
            refine WL.nil ?_
            refine WX.seqN ?_
            refine WC.ret ?_
            refine WX.seqR ?_
            refine WX.ret (rs := [.cell 2 32]) [.agg #[.int .i64 0, .int .i64 0, .int .i64 0, .int .i64 0, .int .i64 0, .int .i64 0, .int .i64 0, .bool false, .int .i64 0, .int .i64 0, .int .i64 0, .int .i64 0, .int .i64 0, .int .i64 0, .slice none 0 0]] (.agg #[.int .i64 0, .int .i64 0, .int .i64 0, .int .i64 0, .int .i64 0, .int .i64 0, .int .i64 0, .bool false, .int .i64 0, .int .i64 0, .int .i64 0, .int .i64 0, .int .i64 0, .int .i64 0, .slice none 0 0]) ⟨⟨_, (by kernel_rfl), ldN (T := 32) (i := 0) (m := 15) (l := [.int .i64 0, .int .i64 0, .int .i64 0, .int .i64 0, .int .i64 0, .int .i64 0, .int .i64 0, .bool false, .int .i64 0, .int .i64 0, .int .i64 0, .int .i64 0, .int .i64 0, .int .i64 0, .slice none 0 0]) hb146⟩, trivial⟩ (k := ?_)
            exact ⟨(⟨⟨0, (⟨0, ⟨0, 0, 0, 0, 0⟩, false, 0, 0, 0⟩ : GOp), 0, 0, 0, []⟩, none, 0⟩ : GCmd), s134, rfl, (ck_4 (.inl ph131) q11 q135).z (by simp [h144]) rfl, OwAt.nil, hr136, K, l138, (by simp [blk])⟩
          · have h148 : (s134.isSome) = true := Bool.not_inj (y := true) h143
            refine WC.skip ?_
            refine WX.seqN ?_
            refine WC.seq ?_
            refine WC.region ?_
            refine WL.load (v := .agg #[.int .i64 (n9 : Int), .int .i64 0, .int .i64 0, .int .i64 0, .int .i64 0, .int .i64 0, .int .i64 0, .bool false, .int .i64 0, .int .i64 0, .int .i64 0, .int .i64 0, .int .i64 0, .int .i64 (n133 : Int), .slice none 0 0]) (ldN (T := 32) (i := 0) (m := 15) (l := [.int .i64 (n9 : Int), .int .i64 0, .int .i64 0, .int .i64 0, .int .i64 0, .int .i64 0, .int .i64 0, .bool false, .int .i64 0, .int .i64 0, .int .i64 0, .int .i64 0, .int .i64 0, .int .i64 (n133 : Int), .slice none 0 0]) hb141) (k := ?_)
            refine WL.store (v := .agg #[.int .i64 (n9 : Int), .int .i64 0, .int .i64 0, .int .i64 0, .int .i64 0, .int .i64 0, .int .i64 0, .bool false, .int .i64 0, .int .i64 0, .int .i64 0, .int .i64 0, .int .i64 0, .int .i64 (n133 : Int), .slice none 0 0]) (i := 0) (cs' := #[.int .i64 (n9 : Int), .int .i64 0, .int .i64 0, .int .i64 0, .int .i64 0, .int .i64 0, .int .i64 0, .bool false, .int .i64 0, .int .i64 0, .int .i64 0, .int .i64 0, .int .i64 0, .int .i64 (n133 : Int), .slice none 0 0]) hb4 (k := fun w149 hb150 k151 => ?_)
            replace hr136 := hr136.keeps k151 n7
            replace hb141 := k151.heap hb141 (Ne.symm n23)
            replace K := K.trans' k151 (fun i hi e => absurd (e ▸ hi) (Nat.not_lt.2 z6))
            clear hb4
            refine WL.nil ?_
            refine WX.seqN ?_
            refine WC.ret ?_
            refine WX.ret (rs := [.cell 2 32]) [.agg #[.int .i64 (n9 : Int), .int .i64 0, .int .i64 0, .int .i64 0, .int .i64 0, .int .i64 0, .int .i64 0, .bool false, .int .i64 0, .int .i64 0, .int .i64 0, .int .i64 0, .int .i64 0, .int .i64 (n133 : Int), .slice none 0 0]] (.agg #[.int .i64 (n9 : Int), .int .i64 0, .int .i64 0, .int .i64 0, .int .i64 0, .int .i64 0, .int .i64 0, .bool false, .int .i64 0, .int .i64 0, .int .i64 0, .int .i64 0, .int .i64 0, .int .i64 (n133 : Int), .slice none 0 0]) ⟨⟨_, (by kernel_rfl), ldN (T := 32) (i := 0) (m := 15) (l := [.int .i64 (n9 : Int), .int .i64 0, .int .i64 0, .int .i64 0, .int .i64 0, .int .i64 0, .int .i64 0, .bool false, .int .i64 0, .int .i64 0, .int .i64 0, .int .i64 0, .int .i64 0, .int .i64 (n133 : Int), .slice none 0 0]) hb150⟩, trivial⟩ (k := ?_)
            exact ⟨(⟨⟨(n9 : Int), (⟨0, ⟨0, 0, 0, 0, 0⟩, false, 0, 0, 0⟩ : GOp), 0, 0, (n133 : Int), []⟩, none, 0⟩ : GCmd), s134, rfl, (ck_4 (.inl ph131) q11 q135).kd h148 (by simp only; omega), OwAt.nil, hr136, K, l138, (by simp [blk])⟩
        · have ph131 := ne_of_beq_false h131
          refine WC.region ?_
          refine WL.op (d := 39) (.bool ((n9 : Int) == 7)) (k := ?_)
          refine WL.op (d := 37) (.bool ((n9 : Int) == 7)) (k := ?_)
          refine WL.nil ?_
          refine WX.seqN ?_
          refine WC.cond (b := (n9 : Int) == 7) (ht := fun h152 => ?_) (hf := fun h152 => ?_)
          · have ph152 := eq_of_beq h152
            refine WC.region ?_
            refine WL.op (d := 40) (.pointer (some ⟨b, 0, none⟩)) (k := ?_)
            refine WL.callG (d := 41) (f := 56) (args := #[.pointer (some ⟨b, 0, none⟩), .int .i64 1048576]) (qInt_x 1048576 hr12 l14 (by omega) (by omega)) (k := fun e_ w153 h_ => ?_)
            obtain ⟨n154, s155, q156, rfl, hr157, k158, l159, m160⟩ := h_
            refine ⟨_, rfl, ?_⟩
            replace hb4 := k158.heap hb4 (Ne.symm n7)
            replace hb25 := k158.heap hb25 (Ne.symm n22)
            replace K := K.trans' k158 (fun i hi e => e)
            clear hr12
            refine WL.op (d := 42) (.pointer (some ⟨b16, 13, none⟩)) (k := ?_)
            refine WL.store (v := .int .i64 (n154 : Int)) (i := 13) (cs' := #[.int .i64 (n9 : Int), .int .i64 0, .int .i64 0, .int .i64 0, .int .i64 0, .int .i64 0, .int .i64 0, .bool false, .int .i64 0, .int .i64 0, .int .i64 0, .int .i64 0, .int .i64 0, .int .i64 (n154 : Int), .slice none 0 0]) hb25 (k := fun w161 hb162 k163 => ?_)
            replace hr157 := hr157.keeps k163 n22
            replace hb4 := k163.heap hb4 n23
            replace K := K.trans' k163 (fun i hi e => absurd (e ▸ hi) (Nat.not_lt.2 z21))
            clear hb25
            refine WL.nil ?_
            refine WX.blockN ?_
            refine WX.seqN ?_
            refine WC.seq ?_
            refine WC.seq ?_
            refine WC.region ?_
            refine WL.op (d := 75) (.pointer (some ⟨b, 0, none⟩)) (k := ?_)
            refine WL.op (d := 76) (.pointer (some ⟨b, 0, none⟩)) (k := ?_)
            refine WL.op (d := 77) (.pointer (some ⟨b, 1, none⟩)) (k := ?_)
            refine WL.load (v := .bool (!(s155.isSome))) (qr_bad (T := 4) hr157) (k := ?_)
            refine WL.nil ?_
            refine WX.seqN ?_
            refine WC.cond (b := !(s155.isSome)) (ht := fun h164 => ?_) (hf := fun h164 => ?_)
            · have h165 : (s155.isSome) = false := Bool.not_inj (y := false) h164
              refine WC.seq ?_
              refine WC.region ?_
              refine WL.op (d := 79) (.agg #[.int .i64 0, .int .i64 0, .int .i64 0, .int .i64 0, .int .i64 0, .int .i64 0, .int .i64 0, .bool false, .int .i64 0, .int .i64 0, .int .i64 0, .int .i64 0, .int .i64 0, .int .i64 0, .slice none 0 0]) (k := ?_)
              refine WL.store (v := .agg #[.int .i64 0, .int .i64 0, .int .i64 0, .int .i64 0, .int .i64 0, .int .i64 0, .int .i64 0, .bool false, .int .i64 0, .int .i64 0, .int .i64 0, .int .i64 0, .int .i64 0, .int .i64 0, .slice none 0 0]) (i := 0) (cs' := #[.int .i64 0, .int .i64 0, .int .i64 0, .int .i64 0, .int .i64 0, .int .i64 0, .int .i64 0, .bool false, .int .i64 0, .int .i64 0, .int .i64 0, .int .i64 0, .int .i64 0, .int .i64 0, .slice none 0 0]) hb4 (k := fun w166 hb167 k168 => ?_)
              replace hr157 := hr157.keeps k168 n7
              replace hb162 := k168.heap hb162 (Ne.symm n23)
              replace K := K.trans' k168 (fun i hi e => absurd (e ▸ hi) (Nat.not_lt.2 z6))
              clear hb4
              refine WL.nil ?_
              refine WX.seqN ?_
              refine WC.ret ?_
              refine WX.seqR ?_
              refine WX.ret (rs := [.cell 2 32]) [.agg #[.int .i64 0, .int .i64 0, .int .i64 0, .int .i64 0, .int .i64 0, .int .i64 0, .int .i64 0, .bool false, .int .i64 0, .int .i64 0, .int .i64 0, .int .i64 0, .int .i64 0, .int .i64 0, .slice none 0 0]] (.agg #[.int .i64 0, .int .i64 0, .int .i64 0, .int .i64 0, .int .i64 0, .int .i64 0, .int .i64 0, .bool false, .int .i64 0, .int .i64 0, .int .i64 0, .int .i64 0, .int .i64 0, .int .i64 0, .slice none 0 0]) ⟨⟨_, (by kernel_rfl), ldN (T := 32) (i := 0) (m := 15) (l := [.int .i64 0, .int .i64 0, .int .i64 0, .int .i64 0, .int .i64 0, .int .i64 0, .int .i64 0, .bool false, .int .i64 0, .int .i64 0, .int .i64 0, .int .i64 0, .int .i64 0, .int .i64 0, .slice none 0 0]) hb167⟩, trivial⟩ (k := ?_)
              exact ⟨(⟨⟨0, (⟨0, ⟨0, 0, 0, 0, 0⟩, false, 0, 0, 0⟩ : GOp), 0, 0, 0, []⟩, none, 0⟩ : GCmd), s155, rfl, (ck_4 (.inr ph152) q11 q156).z (by simp [h165]) rfl, OwAt.nil, hr157, K, l159, (by simp [blk])⟩
            · have h169 : (s155.isSome) = true := Bool.not_inj (y := true) h164
              refine WC.skip ?_
              refine WX.seqN ?_
              refine WC.seq ?_
              refine WC.region ?_
              refine WL.load (v := .agg #[.int .i64 (n9 : Int), .int .i64 0, .int .i64 0, .int .i64 0, .int .i64 0, .int .i64 0, .int .i64 0, .bool false, .int .i64 0, .int .i64 0, .int .i64 0, .int .i64 0, .int .i64 0, .int .i64 (n154 : Int), .slice none 0 0]) (ldN (T := 32) (i := 0) (m := 15) (l := [.int .i64 (n9 : Int), .int .i64 0, .int .i64 0, .int .i64 0, .int .i64 0, .int .i64 0, .int .i64 0, .bool false, .int .i64 0, .int .i64 0, .int .i64 0, .int .i64 0, .int .i64 0, .int .i64 (n154 : Int), .slice none 0 0]) hb162) (k := ?_)
              refine WL.store (v := .agg #[.int .i64 (n9 : Int), .int .i64 0, .int .i64 0, .int .i64 0, .int .i64 0, .int .i64 0, .int .i64 0, .bool false, .int .i64 0, .int .i64 0, .int .i64 0, .int .i64 0, .int .i64 0, .int .i64 (n154 : Int), .slice none 0 0]) (i := 0) (cs' := #[.int .i64 (n9 : Int), .int .i64 0, .int .i64 0, .int .i64 0, .int .i64 0, .int .i64 0, .int .i64 0, .bool false, .int .i64 0, .int .i64 0, .int .i64 0, .int .i64 0, .int .i64 0, .int .i64 (n154 : Int), .slice none 0 0]) hb4 (k := fun w170 hb171 k172 => ?_)
              replace hr157 := hr157.keeps k172 n7
              replace hb162 := k172.heap hb162 (Ne.symm n23)
              replace K := K.trans' k172 (fun i hi e => absurd (e ▸ hi) (Nat.not_lt.2 z6))
              clear hb4
              refine WL.nil ?_
              refine WX.seqN ?_
              refine WC.ret ?_
              refine WX.ret (rs := [.cell 2 32]) [.agg #[.int .i64 (n9 : Int), .int .i64 0, .int .i64 0, .int .i64 0, .int .i64 0, .int .i64 0, .int .i64 0, .bool false, .int .i64 0, .int .i64 0, .int .i64 0, .int .i64 0, .int .i64 0, .int .i64 (n154 : Int), .slice none 0 0]] (.agg #[.int .i64 (n9 : Int), .int .i64 0, .int .i64 0, .int .i64 0, .int .i64 0, .int .i64 0, .int .i64 0, .bool false, .int .i64 0, .int .i64 0, .int .i64 0, .int .i64 0, .int .i64 0, .int .i64 (n154 : Int), .slice none 0 0]) ⟨⟨_, (by kernel_rfl), ldN (T := 32) (i := 0) (m := 15) (l := [.int .i64 (n9 : Int), .int .i64 0, .int .i64 0, .int .i64 0, .int .i64 0, .int .i64 0, .int .i64 0, .bool false, .int .i64 0, .int .i64 0, .int .i64 0, .int .i64 0, .int .i64 0, .int .i64 (n154 : Int), .slice none 0 0]) hb171⟩, trivial⟩ (k := ?_)
              exact ⟨(⟨⟨(n9 : Int), (⟨0, ⟨0, 0, 0, 0, 0⟩, false, 0, 0, 0⟩ : GOp), 0, 0, (n154 : Int), []⟩, none, 0⟩ : GCmd), s155, rfl, (ck_4 (.inr ph152) q11 q156).kd h169 (by simp only; omega), OwAt.nil, hr157, K, l159, (by simp [blk])⟩
          · have ph152 := ne_of_beq_false h152
            refine WC.seq ?_
            refine WC.region ?_
            refine WL.op (d := 44) (.bool ((n9 : Int) == 5)) (k := ?_)
            refine WL.op (d := 43) (.bool ((n9 : Int) == 5)) (k := ?_)
            refine WL.nil ?_
            refine WX.seqN ?_
            refine WC.cond (b := (n9 : Int) == 5) (ht := fun h173 => ?_) (hf := fun h173 => ?_)
            · have ph173 := eq_of_beq h173
              refine WC.region ?_
              refine WL.op (d := 45) (.pointer (some ⟨b, 0, none⟩)) (k := ?_)
              refine WL.callG (d := 46) (f := 56) (args := #[.pointer (some ⟨b, 0, none⟩), .int .i64 1023]) (qInt_x 1023 hr12 l14 (by omega) (by omega)) (k := fun e_ w174 h_ => ?_)
              obtain ⟨n175, s176, q177, rfl, hr178, k179, l180, m181⟩ := h_
              refine ⟨_, rfl, ?_⟩
              replace hb4 := k179.heap hb4 (Ne.symm n7)
              replace hb25 := k179.heap hb25 (Ne.symm n22)
              replace K := K.trans' k179 (fun i hi e => e)
              clear hr12
              refine WL.op (d := 47) (.pointer (some ⟨b16, 11, none⟩)) (k := ?_)
              refine WL.store (v := .int .i64 (n175 : Int)) (i := 11) (cs' := #[.int .i64 (n9 : Int), .int .i64 0, .int .i64 0, .int .i64 0, .int .i64 0, .int .i64 0, .int .i64 0, .bool false, .int .i64 0, .int .i64 0, .int .i64 0, .int .i64 (n175 : Int), .int .i64 0, .int .i64 0, .slice none 0 0]) hb25 (k := fun w182 hb183 k184 => ?_)
              replace hr178 := hr178.keeps k184 n22
              replace hb4 := k184.heap hb4 n23
              replace K := K.trans' k184 (fun i hi e => absurd (e ▸ hi) (Nat.not_lt.2 z21))
              clear hb25
              refine WL.nil ?_
              refine WX.blockN ?_
              refine WX.seqN ?_
              refine WC.seq ?_
              refine WC.seq ?_
              refine WC.region ?_
              refine WL.op (d := 75) (.pointer (some ⟨b, 0, none⟩)) (k := ?_)
              refine WL.op (d := 76) (.pointer (some ⟨b, 0, none⟩)) (k := ?_)
              refine WL.op (d := 77) (.pointer (some ⟨b, 1, none⟩)) (k := ?_)
              refine WL.load (v := .bool (!(s176.isSome))) (qr_bad (T := 4) hr178) (k := ?_)
              refine WL.nil ?_
              refine WX.seqN ?_
              refine WC.cond (b := !(s176.isSome)) (ht := fun h185 => ?_) (hf := fun h185 => ?_)
              · have h186 : (s176.isSome) = false := Bool.not_inj (y := false) h185
                refine WC.seq ?_
                refine WC.region ?_
                refine WL.op (d := 79) (.agg #[.int .i64 0, .int .i64 0, .int .i64 0, .int .i64 0, .int .i64 0, .int .i64 0, .int .i64 0, .bool false, .int .i64 0, .int .i64 0, .int .i64 0, .int .i64 0, .int .i64 0, .int .i64 0, .slice none 0 0]) (k := ?_)
                refine WL.store (v := .agg #[.int .i64 0, .int .i64 0, .int .i64 0, .int .i64 0, .int .i64 0, .int .i64 0, .int .i64 0, .bool false, .int .i64 0, .int .i64 0, .int .i64 0, .int .i64 0, .int .i64 0, .int .i64 0, .slice none 0 0]) (i := 0) (cs' := #[.int .i64 0, .int .i64 0, .int .i64 0, .int .i64 0, .int .i64 0, .int .i64 0, .int .i64 0, .bool false, .int .i64 0, .int .i64 0, .int .i64 0, .int .i64 0, .int .i64 0, .int .i64 0, .slice none 0 0]) hb4 (k := fun w187 hb188 k189 => ?_)
                replace hr178 := hr178.keeps k189 n7
                replace hb183 := k189.heap hb183 (Ne.symm n23)
                replace K := K.trans' k189 (fun i hi e => absurd (e ▸ hi) (Nat.not_lt.2 z6))
                clear hb4
                refine WL.nil ?_
                refine WX.seqN ?_
                refine WC.ret ?_
                refine WX.seqR ?_
                refine WX.ret (rs := [.cell 2 32]) [.agg #[.int .i64 0, .int .i64 0, .int .i64 0, .int .i64 0, .int .i64 0, .int .i64 0, .int .i64 0, .bool false, .int .i64 0, .int .i64 0, .int .i64 0, .int .i64 0, .int .i64 0, .int .i64 0, .slice none 0 0]] (.agg #[.int .i64 0, .int .i64 0, .int .i64 0, .int .i64 0, .int .i64 0, .int .i64 0, .int .i64 0, .bool false, .int .i64 0, .int .i64 0, .int .i64 0, .int .i64 0, .int .i64 0, .int .i64 0, .slice none 0 0]) ⟨⟨_, (by kernel_rfl), ldN (T := 32) (i := 0) (m := 15) (l := [.int .i64 0, .int .i64 0, .int .i64 0, .int .i64 0, .int .i64 0, .int .i64 0, .int .i64 0, .bool false, .int .i64 0, .int .i64 0, .int .i64 0, .int .i64 0, .int .i64 0, .int .i64 0, .slice none 0 0]) hb188⟩, trivial⟩ (k := ?_)
                exact ⟨(⟨⟨0, (⟨0, ⟨0, 0, 0, 0, 0⟩, false, 0, 0, 0⟩ : GOp), 0, 0, 0, []⟩, none, 0⟩ : GCmd), s176, rfl, (ck_5 ph173 q11 q177).z (by simp [h186]) rfl, OwAt.nil, hr178, K, l180, (by simp [blk])⟩
              · have h190 : (s176.isSome) = true := Bool.not_inj (y := true) h185
                refine WC.skip ?_
                refine WX.seqN ?_
                refine WC.seq ?_
                refine WC.region ?_
                refine WL.load (v := .agg #[.int .i64 (n9 : Int), .int .i64 0, .int .i64 0, .int .i64 0, .int .i64 0, .int .i64 0, .int .i64 0, .bool false, .int .i64 0, .int .i64 0, .int .i64 0, .int .i64 (n175 : Int), .int .i64 0, .int .i64 0, .slice none 0 0]) (ldN (T := 32) (i := 0) (m := 15) (l := [.int .i64 (n9 : Int), .int .i64 0, .int .i64 0, .int .i64 0, .int .i64 0, .int .i64 0, .int .i64 0, .bool false, .int .i64 0, .int .i64 0, .int .i64 0, .int .i64 (n175 : Int), .int .i64 0, .int .i64 0, .slice none 0 0]) hb183) (k := ?_)
                refine WL.store (v := .agg #[.int .i64 (n9 : Int), .int .i64 0, .int .i64 0, .int .i64 0, .int .i64 0, .int .i64 0, .int .i64 0, .bool false, .int .i64 0, .int .i64 0, .int .i64 0, .int .i64 (n175 : Int), .int .i64 0, .int .i64 0, .slice none 0 0]) (i := 0) (cs' := #[.int .i64 (n9 : Int), .int .i64 0, .int .i64 0, .int .i64 0, .int .i64 0, .int .i64 0, .int .i64 0, .bool false, .int .i64 0, .int .i64 0, .int .i64 0, .int .i64 (n175 : Int), .int .i64 0, .int .i64 0, .slice none 0 0]) hb4 (k := fun w191 hb192 k193 => ?_)
                replace hr178 := hr178.keeps k193 n7
                replace hb183 := k193.heap hb183 (Ne.symm n23)
                replace K := K.trans' k193 (fun i hi e => absurd (e ▸ hi) (Nat.not_lt.2 z6))
                clear hb4
                refine WL.nil ?_
                refine WX.seqN ?_
                refine WC.ret ?_
                refine WX.ret (rs := [.cell 2 32]) [.agg #[.int .i64 (n9 : Int), .int .i64 0, .int .i64 0, .int .i64 0, .int .i64 0, .int .i64 0, .int .i64 0, .bool false, .int .i64 0, .int .i64 0, .int .i64 0, .int .i64 (n175 : Int), .int .i64 0, .int .i64 0, .slice none 0 0]] (.agg #[.int .i64 (n9 : Int), .int .i64 0, .int .i64 0, .int .i64 0, .int .i64 0, .int .i64 0, .int .i64 0, .bool false, .int .i64 0, .int .i64 0, .int .i64 0, .int .i64 (n175 : Int), .int .i64 0, .int .i64 0, .slice none 0 0]) ⟨⟨_, (by kernel_rfl), ldN (T := 32) (i := 0) (m := 15) (l := [.int .i64 (n9 : Int), .int .i64 0, .int .i64 0, .int .i64 0, .int .i64 0, .int .i64 0, .int .i64 0, .bool false, .int .i64 0, .int .i64 0, .int .i64 0, .int .i64 (n175 : Int), .int .i64 0, .int .i64 0, .slice none 0 0]) hb192⟩, trivial⟩ (k := ?_)
                exact ⟨(⟨⟨(n9 : Int), (⟨0, ⟨0, 0, 0, 0, 0⟩, false, 0, 0, 0⟩ : GOp), (n175 : Int), 0, 0, []⟩, none, 0⟩ : GCmd), s176, rfl, (ck_5 ph173 q11 q177).kd h190 (by simp only; omega), OwAt.nil, hr178, K, l180, (by simp [blk])⟩
            · have ph173 := ne_of_beq_false h173
              refine WC.seq ?_
              refine WC.region ?_
              refine WL.op (d := 49) (.bool ((n9 : Int) == 8)) (k := ?_)
              refine WL.op (d := 48) (.bool ((n9 : Int) == 8)) (k := ?_)
              refine WL.nil ?_
              refine WX.seqN ?_
              refine WC.cond (b := (n9 : Int) == 8) (ht := fun h194 => ?_) (hf := fun h194 => ?_)
              · have ph194 := eq_of_beq h194
                refine WC.seq ?_
                refine WC.region ?_
                refine WL.op (d := 50) (.pointer (some ⟨b, 0, none⟩)) (k := ?_)
                refine WL.callG (d := 51) (f := 56) (args := #[.pointer (some ⟨b, 0, none⟩), .int .i64 64]) (qInt_x 64 hr12 l14 (by omega) (by omega)) (k := fun e_ w195 h_ => ?_)
                obtain ⟨n196, s197, q198, rfl, hr199, k200, l201, m202⟩ := h_
                refine ⟨_, rfl, ?_⟩
                replace hb4 := k200.heap hb4 (Ne.symm n7)
                replace hb25 := k200.heap hb25 (Ne.symm n22)
                replace K := K.trans' k200 (fun i hi e => e)
                clear hr12
                refine WL.op (d := 6) (.int .i64 (n196 : Int)) (k := ?_)
                refine WL.nil ?_
                refine WX.seqN ?_
                refine WC.seq ?_
                refine WC.region ?_
                refine WL.op (d := 7) (.int .i64 0) (k := ?_)
                refine WL.nil ?_
                refine WX.seqN ?_
                refine WC.block ?_
                refine WC.loop (ι := Int × (Option (List UInt8)) × (List GFate) × (Option Addr) × Nat) (fun (⟨i, s, done, Ao, co⟩ : Int × (Option (List UInt8)) × (List GFate) × (Option Addr) × Nat) => [(0, .pointer (some ⟨b, 0, none⟩)), (2, .pointer (some ⟨b1, 0, none⟩)), (9, .pointer (some ⟨b, 0, none⟩)), (10, .int .i64 (n9 : Int)), (11, .agg #[.int .i64 (n9 : Int), .int .i64 0, .int .i64 0, .int .i64 0, .int .i64 0, .int .i64 0, .int .i64 0, .bool false, .int .i64 0, .int .i64 0, .int .i64 0, .int .i64 0, .int .i64 0, .int .i64 0, .slice none 0 0]), (3, .pointer (some ⟨b16, 0, none⟩)), (12, .pointer (some ⟨b16, 0, none⟩)), (13, .int .i64 (n9 : Int)), (15, .bool ((n9 : Int) == 1)), (14, .bool ((n9 : Int) == 1)), (28, .bool ((n9 : Int) == 2)), (27, .bool ((n9 : Int) == 3)), (29, .bool ((n9 : Int) == 3)), (38, .bool ((n9 : Int) == 4)), (37, .bool ((n9 : Int) == 7)), (39, .bool ((n9 : Int) == 7)), (44, .bool ((n9 : Int) == 5)), (43, .bool ((n9 : Int) == 5)), (49, .bool ((n9 : Int) == 8)), (48, .bool ((n9 : Int) == 8)), (50, .pointer (some ⟨b, 0, none⟩)), (51, .int .i64 (n196 : Int)), (6, .int .i64 (n196 : Int)), (7, .int .i64 i)]) (fun (⟨i, s, done, Ao, co⟩ : Int × (Option (List UInt8)) × (List GFate) × (Option Addr) × Nat) (w_ : World) => (Keeps (fun k => k = b) w w_) ∧ (QrAt b s w_) ∧ (stLen s ≤ 1000000000) ∧ (w_.heap[b1]? = some (.cells #[.int .i64 0, .int .i64 0, .int .i64 0, .int .i64 0, .int .i64 0, .int .i64 0, .int .i64 0, .bool false, .int .i64 0, .int .i64 0, .int .i64 0, .int .i64 0, .int .i64 0, .int .i64 0, .slice none 0 0] 32 (0, 0))) ∧ (w_.heap[b16]? = some (.cells #[.int .i64 (n9 : Int), .int .i64 0, .int .i64 0, .int .i64 0, .int .i64 0, .int .i64 0, .int .i64 0, .bool false, .int .i64 0, .int .i64 0, .int .i64 0, .int .i64 0, .int .i64 0, .int .i64 0, .slice Ao done.length co] 32 (0, 0))) ∧ (OwAt fateC 2 50 Ao co done w_) ∧ (∀ i, blk Ao = some i → w.heap.size ≤ i) ∧ (0 ≤ i) ∧ (i ≤ (n196 : Int)) ∧ ((done.length : Int) ≤ i) ∧ (fsI n196 s197 i done s)) (fun (⟨i, s, done, Ao, co⟩ : Int × (Option (List UInt8)) × (List GFate) × (Option Addr) × Nat) => ((n196 : Int) - i).toNat) (0, s197, [], none, 0) ⟨(by kernel_rfl), (by kernel_rfl), (by kernel_rfl), (by kernel_rfl), (by kernel_rfl), (by kernel_rfl), (by kernel_rfl), (by kernel_rfl), (by kernel_rfl), (by kernel_rfl), (by kernel_rfl), (by kernel_rfl), (by kernel_rfl), (by kernel_rfl), (by kernel_rfl), (by kernel_rfl), (by kernel_rfl), (by kernel_rfl), (by kernel_rfl), (by kernel_rfl), (by kernel_rfl), (by kernel_rfl), (by kernel_rfl), (by kernel_rfl), trivial⟩ ⟨K, hr199, l201, hb4, hb25, OwAt.nil, (by simp [blk]), Int.le_refl 0, (by omega), (Int.le_refl _), fsI_zero _ _⟩ ?_
                rintro ⟨i, s, done, Ao, co⟩ w203 ⟨K, hb204, l205, hb206, hb207, hb208, ol209, i0, i1, hdl, hrd⟩
                refine WC.seq ?_
                refine WC.seq ?_
                refine WC.region ?_
                refine WL.op (d := 52) (.int .i64 i) (k := ?_)
                refine WL.op (d := 53) (.int .i64 (n196 : Int)) (k := ?_)
                refine WL.op (d := 54) (.bool (decide (i < (n196 : Int)))) (k := ?_)
                refine WL.op (d := 55) (.bool (decide (i < (n196 : Int)))) (k := ?_)
                refine bsplit (decide (i < (n196 : Int))) (fun h210 => ?_) (fun h210 => ?_)
                · have ph210 := of_decide_eq_true h210
                  refine WL.rw (t := 55) (v := .bool true) (congrArg Value.bool h210) (k := ?_)
                  refine WL.op (d := 56) (.pointer (some ⟨b, 0, none⟩)) (k := ?_)
                  refine WL.op (d := 57) (.pointer (some ⟨b, 0, none⟩)) (k := ?_)
                  refine WL.op (d := 58) (.pointer (some ⟨b, 1, none⟩)) (k := ?_)
                  refine WL.load (v := .bool (!(s.isSome))) (qr_bad (T := 4) hb204) (k := ?_)
                  refine WL.op (d := 60) (.bool (!(!(s.isSome)))) (k := ?_)
                  refine WL.op (d := 61) (.bool (!(!(s.isSome)))) (k := ?_)
                  refine WL.nil ?_
                  refine WX.seqN ?_
                  refine WC.cond (b := !(!(s.isSome))) (ht := fun h211 => ?_) (hf := fun h211 => ?_)
                  · have h212 : (!(s.isSome)) = false := Bool.not_inj (y := false) h211
                    have h213 : (s.isSome) = true := Bool.not_inj (y := true) h212
                    refine WC.skip ?_
                    refine WX.seqN ?_
                    refine WC.seq ?_
                    refine WC.block ?_
                    refine WC.seq ?_
                    refine WC.region ?_
                    refine WL.op (d := 64) (.pointer (some ⟨b, 0, none⟩)) (k := ?_)
                    refine WL.callG (d := 65) (f := 56) (args := #[.pointer (some ⟨b, 0, none⟩), .int .i64 2]) (qInt_x 2 hb204 l205 (by omega) (by omega)) (k := fun e_ w214 h_ => ?_)
                    obtain ⟨n215, s216, q217, rfl, hr218, k219, l220, m221⟩ := h_
                    refine ⟨_, rfl, ?_⟩
                    replace hb206 := k219.heap hb206 (Ne.symm n7)
                    replace hb207 := k219.heap hb207 (Ne.symm n22)
                    replace hb208 := hb208.keeps k219 (fun i hi e => (hb204.offO hb208 (by decide)) (e ▸ hi))
                    replace K := K.trans' k219 (fun i hi e => e)
                    clear hb204
                    refine WL.op (d := 8) (.int .i64 (n215 : Int)) (k := ?_)
                    refine WL.nil ?_
                    refine WX.seqN ?_
                    refine WC.mixed (fun k => k = b ∨ blk Ao = some k) 9 (k := fun w222 k223 => ?_)
                    replace hr218 := hr218.keeps k223 id
                    replace hb206 := k223.heap hb206 id
                    replace hb207 := k223.heap hb207 id
                    replace hb208 := hb208.adds k223
                    replace K := K.trans (k223.any _)
                    have KC := Keeps.refl (fun k => k = b ∨ blk Ao = some k) w222
                    have bh224 := hb206
                    have bh225 := hb207
                    have Kb := K
                    refine WA.quiet 0 (d := 66) (.pointer (some ⟨b16, 14, none⟩)) KC (hi := rfl) (k := ?_)
                    refine WA.quietR 1 (d := 67) (.slice Ao done.length co) KC (exec_load (fun w_ k_ => ld1 (T := 30) (i := 14) (k_.heap bh225 (not_or.2 ⟨(Ne.symm n22), (hb208.offT hb207 (by decide))⟩)))) (hi := rfl) (k := ?_)
                    refine WA.quiet 2 (d := 68) (.int .i64 (n215 : Int)) KC (hi := rfl) (k := ?_)
                    refine WA.quiet 3 (d := 69) (.pointer (some ⟨b, 0, none⟩)) KC (hi := rfl) (k := ?_)
                    refine WA.step 4 (hi := rfl) (k := ?_)
                    refine WL.callG (d := 70) (f := 56) (args := #[.pointer (some ⟨b, 0, none⟩), .int .i64 64]) (qInt_x 64 hr218 l220 (by omega) (by omega)) (k := fun e_ w226 h_ => ?_)
                    obtain ⟨n227, s228, q229, rfl, hr230, k231, l232, m233⟩ := h_
                    refine ⟨_, rfl, ?_⟩
                    replace hb206 := k231.heap hb206 (Ne.symm n7)
                    replace hb207 := k231.heap hb207 (Ne.symm n22)
                    replace hb208 := hb208.keeps k231 (fun i hi e => (hr218.offO hb208 (by decide)) (e ▸ hi))
                    replace K := K.trans' k231 (fun i hi e => e)
                    replace KC := KC.trans' k231 (fun i hi e => .inl (e))
                    clear hr218
                    refine WL.nil ?_
                    refine WX.nxt KC ?_
                    refine WA.quiet 5 (d := 71) (.agg #[.int .i64 (n215 : Int), .int .i64 (n227 : Int)]) KC (hi := rfl) (k := ?_)
                    refine WA.step 6 (hi := rfl) (k := ?_)
                    refine WL.newF (d := 72) (T := 50) #[.int .i64 (n215 : Int), .int .i64 (n227 : Int)] (fun b => .slice (some ⟨b, 0, none⟩) 1 1) (k := fun b234 w235 g236 hb237 k238 => ?_)
                    have z239 := Nat.le_trans K.size g236
                    have zc240 := Nat.le_trans KC.size g236
                    have n241 : b ≠ b234 := Nat.ne_of_lt (Nat.lt_of_lt_of_le hr230.lt g236)
                    have n242 : b1 ≠ b234 := Nat.ne_of_lt (Nat.lt_of_lt_of_le (lt_of_heap hb206) g236)
                    have n243 : b16 ≠ b234 := Nat.ne_of_lt (Nat.lt_of_lt_of_le (lt_of_heap hb207) g236)
                    have n244 := OwAt.off_new hb208 g236
                    replace hr230 := hr230.keeps k238 id
                    replace hb206 := k238.heap hb206 id
                    replace hb207 := k238.heap hb207 id
                    replace hb208 := hb208.adds k238
                    replace K := K.trans (k238.any _)
                    replace KC := KC.trans (k238.any _)
                    refine WL.nil ?_
                    refine WX.nxt KC ?_
                    refine WA.step 7 (hi := rfl) (k := ?_)
                    refine WL.append (d := 73) (T := 30) (cl := fateC) (xs := done) (ys := [(⟨(n215 : Int), (n227 : Int)⟩ : GFate)]) (c := 1) ekFate hb208 (SlAt.of_lit (ys := [(⟨(n215 : Int), (n227 : Int)⟩ : GFate)]) ekFate hb237 (by kernel_rfl)) (by simp; omega) (k := fun A245 c246 w247 ho248 k249 n250 => ?_)
                    have ol251 := olink_step ol209 K n250
                    replace hr230 := hr230.keeps k249 (hr230.offO hb208 (by decide))
                    replace hb206 := k249.heap hb206 (hb208.offT hb206 (by decide))
                    replace hb207 := k249.heap hb207 (hb208.offT hb207 (by decide))
                    replace K := K.trans' k249 (fun i hi e => absurd hi (Nat.not_lt.2 (ol209 i e)))
                    replace KC := KC.trans' k249 (fun i hi e => .inr (e))
                    clear hb208
                    refine WL.nil ?_
                    refine WX.nxt KC ?_
                    refine WA.quiet 8 (d := 74) (.pointer (some ⟨b16, 14, none⟩)) KC (hi := rfl) (k := ?_)
                    refine WA.step 9 (hi := rfl) (k := ?_)
                    refine WL.store (v := .slice A245 ((done ++ [(⟨(n215 : Int), (n227 : Int)⟩ : GFate)]).length) c246) (i := 14) (cs' := #[.int .i64 (n9 : Int), .int .i64 0, .int .i64 0, .int .i64 0, .int .i64 0, .int .i64 0, .int .i64 0, .bool false, .int .i64 0, .int .i64 0, .int .i64 0, .int .i64 0, .int .i64 0, .int .i64 0, .slice A245 ((done ++ [(⟨(n215 : Int), (n227 : Int)⟩ : GFate)]).length) c246]) hb207 (k := fun w252 hb253 k254 => ?_)
                    replace hr230 := hr230.keeps k254 n22
                    replace hb206 := k254.heap hb206 n23
                    replace ho248 := ho248.keeps k254 (fun i hi e => (ho248.offT hb207 (by decide)) (e ▸ hi))
                    replace K := K.trans' k254 (fun i hi e => absurd (e ▸ hi) (Nat.not_lt.2 z21))
                    clear hb207
                    refine WL.nil ?_
                    refine WX.nxtL ?_
                    refine WA.done (k := ?_)
                    clear KC
                    refine WX.blockN ?_
                    refine WX.seqN ?_
                    refine WC.region ?_
                    refine WL.op (d := 62) (.int .i64 i) (k := ?_)
                    refine WL.opE (d := 63) (.int .i64 (IntKind.i64.wrap (i + 1))) (v := .int .i64 (i + 1)) (congrArg (Value.int .i64) (IntWalk.i64_in _ (by omega))) (k := ?_)
                    refine WL.op (d := 7) (.int .i64 (i + 1)) (k := ?_)
                    refine WL.nil ?_
                    refine WX.round (i + 1, s228, done ++ [(⟨(n215 : Int), (n227 : Int)⟩ : GFate)], A245, c246) (by show ((n196 : Int) - (i + 1)).toNat < ((n196 : Int) - i).toNat; omega) ⟨(by kernel_rfl), (by kernel_rfl), (by kernel_rfl), (by kernel_rfl), (by kernel_rfl), (by kernel_rfl), (by kernel_rfl), (by kernel_rfl), (by kernel_rfl), (by kernel_rfl), (by kernel_rfl), (by kernel_rfl), (by kernel_rfl), (by kernel_rfl), (by kernel_rfl), (by kernel_rfl), (by kernel_rfl), (by kernel_rfl), (by kernel_rfl), (by kernel_rfl), (by kernel_rfl), (by kernel_rfl), (by kernel_rfl), (by kernel_rfl), trivial⟩ ⟨K, hr230, l232, hb206, hb253, ho248, ol251, (by omega), (by omega), (by simp; omega), (fsI_succ i0 (by omega) hrd (rdFate_eq q217 q229))⟩
                  · have h255 : (!(s.isSome)) = true := Bool.not_inj (y := true) h211
                    have h256 : (s.isSome) = false := Bool.not_inj (y := false) h255
                    refine WC.exit ?_
                    refine WX.seqE ?_
                    refine WX.seqE ?_
                    refine WX.blockE ?_
                    refine WX.blockN ?_
                    refine WX.seqN ?_
                    refine WC.seq ?_
                    refine WC.seq ?_
                    refine WC.region ?_
                    refine WL.op (d := 75) (.pointer (some ⟨b, 0, none⟩)) (k := ?_)
                    refine WL.op (d := 76) (.pointer (some ⟨b, 0, none⟩)) (k := ?_)
                    refine WL.op (d := 77) (.pointer (some ⟨b, 1, none⟩)) (k := ?_)
                    refine WL.load (v := .bool (!(s.isSome))) (qr_bad (T := 4) hb204) (k := ?_)
                    refine WL.nil ?_
                    refine WX.seqN ?_
                    refine WC.rw (t := 78) (v := .bool true) (congrArg Value.bool h255) (k := ?_)
                    refine WC.condT (k := ?_)
                    refine WC.seq ?_
                    refine WC.region ?_
                    refine WL.op (d := 79) (.agg #[.int .i64 0, .int .i64 0, .int .i64 0, .int .i64 0, .int .i64 0, .int .i64 0, .int .i64 0, .bool false, .int .i64 0, .int .i64 0, .int .i64 0, .int .i64 0, .int .i64 0, .int .i64 0, .slice none 0 0]) (k := ?_)
                    refine WL.store (v := .agg #[.int .i64 0, .int .i64 0, .int .i64 0, .int .i64 0, .int .i64 0, .int .i64 0, .int .i64 0, .bool false, .int .i64 0, .int .i64 0, .int .i64 0, .int .i64 0, .int .i64 0, .int .i64 0, .slice none 0 0]) (i := 0) (cs' := #[.int .i64 0, .int .i64 0, .int .i64 0, .int .i64 0, .int .i64 0, .int .i64 0, .int .i64 0, .bool false, .int .i64 0, .int .i64 0, .int .i64 0, .int .i64 0, .int .i64 0, .int .i64 0, .slice none 0 0]) hb206 (k := fun w257 hb258 k259 => ?_)
                    replace hb204 := hb204.keeps k259 n7
                    replace hb207 := k259.heap hb207 (Ne.symm n23)
                    replace hb208 := hb208.keeps k259 (fun i hi e => (hb208.offT hb206 (by decide)) (e ▸ hi))
                    replace K := K.trans' k259 (fun i hi e => absurd (e ▸ hi) (Nat.not_lt.2 z6))
                    clear hb206
                    refine WL.nil ?_
                    refine WX.seqN ?_
                    refine WC.ret ?_
                    refine WX.seqR ?_
                    refine WX.ret (rs := [.cell 2 32]) [.agg #[.int .i64 0, .int .i64 0, .int .i64 0, .int .i64 0, .int .i64 0, .int .i64 0, .int .i64 0, .bool false, .int .i64 0, .int .i64 0, .int .i64 0, .int .i64 0, .int .i64 0, .int .i64 0, .slice none 0 0]] (.agg #[.int .i64 0, .int .i64 0, .int .i64 0, .int .i64 0, .int .i64 0, .int .i64 0, .int .i64 0, .bool false, .int .i64 0, .int .i64 0, .int .i64 0, .int .i64 0, .int .i64 0, .int .i64 0, .slice none 0 0]) ⟨⟨_, (by kernel_rfl), ldN (T := 32) (i := 0) (m := 15) (l := [.int .i64 0, .int .i64 0, .int .i64 0, .int .i64 0, .int .i64 0, .int .i64 0, .int .i64 0, .bool false, .int .i64 0, .int .i64 0, .int .i64 0, .int .i64 0, .int .i64 0, .int .i64 0, .slice none 0 0]) hb258⟩, trivial⟩ (k := ?_)
                    exact ⟨(⟨⟨0, (⟨0, ⟨0, 0, 0, 0, 0⟩, false, 0, 0, 0⟩ : GOp), 0, 0, 0, []⟩, none, 0⟩ : GCmd), s, rfl, (ck_8x ph194 q11 q198 hrd h256 default none).z id rfl, OwAt.nil, hb204, K, l205, (by simp [blk])⟩
                · have ph210 := of_decide_eq_false h210
                  refine WL.rw (t := 55) (v := .bool false) (congrArg Value.bool h210) (k := ?_)
                  refine WL.skip (d := 56) (k := ?_)
                  refine WL.skip (d := 57) (k := ?_)
                  refine WL.skip (d := 58) (k := ?_)
                  refine WL.skip (d := 59) (k := ?_)
                  refine WL.skip (d := 60) (k := ?_)
                  refine WL.op (d := 61) (.bool false) (k := ?_)
                  refine WL.nil ?_
                  refine WX.seqN ?_
                  refine WC.condF (k := ?_)
                  refine WC.exit ?_
                  refine WX.seqE ?_
                  refine WX.seqE ?_
                  refine WX.blockE ?_
                  refine WX.blockN ?_
                  refine WX.seqN ?_
                  refine WC.seq ?_
                  refine WC.seq ?_
                  refine WC.region ?_
                  refine WL.op (d := 75) (.pointer (some ⟨b, 0, none⟩)) (k := ?_)
                  refine WL.op (d := 76) (.pointer (some ⟨b, 0, none⟩)) (k := ?_)
                  refine WL.op (d := 77) (.pointer (some ⟨b, 1, none⟩)) (k := ?_)
                  refine WL.load (v := .bool (!(s.isSome))) (qr_bad (T := 4) hb204) (k := ?_)
                  refine WL.nil ?_
                  refine WX.seqN ?_
                  refine WC.cond (b := !(s.isSome)) (ht := fun h260 => ?_) (hf := fun h260 => ?_)
                  · have h261 : (s.isSome) = false := Bool.not_inj (y := false) h260
                    refine WC.seq ?_
                    refine WC.region ?_
                    refine WL.op (d := 79) (.agg #[.int .i64 0, .int .i64 0, .int .i64 0, .int .i64 0, .int .i64 0, .int .i64 0, .int .i64 0, .bool false, .int .i64 0, .int .i64 0, .int .i64 0, .int .i64 0, .int .i64 0, .int .i64 0, .slice none 0 0]) (k := ?_)
                    refine WL.store (v := .agg #[.int .i64 0, .int .i64 0, .int .i64 0, .int .i64 0, .int .i64 0, .int .i64 0, .int .i64 0, .bool false, .int .i64 0, .int .i64 0, .int .i64 0, .int .i64 0, .int .i64 0, .int .i64 0, .slice none 0 0]) (i := 0) (cs' := #[.int .i64 0, .int .i64 0, .int .i64 0, .int .i64 0, .int .i64 0, .int .i64 0, .int .i64 0, .bool false, .int .i64 0, .int .i64 0, .int .i64 0, .int .i64 0, .int .i64 0, .int .i64 0, .slice none 0 0]) hb206 (k := fun w262 hb263 k264 => ?_)
                    replace hb204 := hb204.keeps k264 n7
                    replace hb207 := k264.heap hb207 (Ne.symm n23)
                    replace hb208 := hb208.keeps k264 (fun i hi e => (hb208.offT hb206 (by decide)) (e ▸ hi))
                    replace K := K.trans' k264 (fun i hi e => absurd (e ▸ hi) (Nat.not_lt.2 z6))
                    clear hb206
                    refine WL.nil ?_
                    refine WX.seqN ?_
                    refine WC.ret ?_
                    refine WX.seqR ?_
                    refine WX.ret (rs := [.cell 2 32]) [.agg #[.int .i64 0, .int .i64 0, .int .i64 0, .int .i64 0, .int .i64 0, .int .i64 0, .int .i64 0, .bool false, .int .i64 0, .int .i64 0, .int .i64 0, .int .i64 0, .int .i64 0, .int .i64 0, .slice none 0 0]] (.agg #[.int .i64 0, .int .i64 0, .int .i64 0, .int .i64 0, .int .i64 0, .int .i64 0, .int .i64 0, .bool false, .int .i64 0, .int .i64 0, .int .i64 0, .int .i64 0, .int .i64 0, .int .i64 0, .slice none 0 0]) ⟨⟨_, (by kernel_rfl), ldN (T := 32) (i := 0) (m := 15) (l := [.int .i64 0, .int .i64 0, .int .i64 0, .int .i64 0, .int .i64 0, .int .i64 0, .int .i64 0, .bool false, .int .i64 0, .int .i64 0, .int .i64 0, .int .i64 0, .int .i64 0, .int .i64 0, .slice none 0 0]) hb263⟩, trivial⟩ (k := ?_)
                    exact ⟨(⟨⟨0, (⟨0, ⟨0, 0, 0, 0, 0⟩, false, 0, 0, 0⟩ : GOp), 0, 0, 0, []⟩, none, 0⟩ : GCmd), s, rfl, (ck_8x ph194 q11 q198 hrd h261 default none).z id rfl, OwAt.nil, hb204, K, l205, (by simp [blk])⟩
                  · have h265 : (s.isSome) = true := Bool.not_inj (y := true) h260
                    refine WC.skip ?_
                    refine WX.seqN ?_
                    refine WC.seq ?_
                    refine WC.region ?_
                    refine WL.load (v := .agg #[.int .i64 (n9 : Int), .int .i64 0, .int .i64 0, .int .i64 0, .int .i64 0, .int .i64 0, .int .i64 0, .bool false, .int .i64 0, .int .i64 0, .int .i64 0, .int .i64 0, .int .i64 0, .int .i64 0, .slice Ao done.length co]) (ldN (T := 32) (i := 0) (m := 15) (l := [.int .i64 (n9 : Int), .int .i64 0, .int .i64 0, .int .i64 0, .int .i64 0, .int .i64 0, .int .i64 0, .bool false, .int .i64 0, .int .i64 0, .int .i64 0, .int .i64 0, .int .i64 0, .int .i64 0, .slice Ao done.length co]) hb207) (k := ?_)
                    refine WL.store (v := .agg #[.int .i64 (n9 : Int), .int .i64 0, .int .i64 0, .int .i64 0, .int .i64 0, .int .i64 0, .int .i64 0, .bool false, .int .i64 0, .int .i64 0, .int .i64 0, .int .i64 0, .int .i64 0, .int .i64 0, .slice Ao done.length co]) (i := 0) (cs' := #[.int .i64 (n9 : Int), .int .i64 0, .int .i64 0, .int .i64 0, .int .i64 0, .int .i64 0, .int .i64 0, .bool false, .int .i64 0, .int .i64 0, .int .i64 0, .int .i64 0, .int .i64 0, .int .i64 0, .slice Ao done.length co]) hb206 (k := fun w266 hb267 k268 => ?_)
                    replace hb204 := hb204.keeps k268 n7
                    replace hb207 := k268.heap hb207 (Ne.symm n23)
                    replace hb208 := hb208.keeps k268 (fun i hi e => (hb208.offT hb206 (by decide)) (e ▸ hi))
                    replace K := K.trans' k268 (fun i hi e => absurd (e ▸ hi) (Nat.not_lt.2 z6))
                    clear hb206
                    refine WL.nil ?_
                    refine WX.seqN ?_
                    refine WC.ret ?_
                    refine WX.ret (rs := [.cell 2 32]) [.agg #[.int .i64 (n9 : Int), .int .i64 0, .int .i64 0, .int .i64 0, .int .i64 0, .int .i64 0, .int .i64 0, .bool false, .int .i64 0, .int .i64 0, .int .i64 0, .int .i64 0, .int .i64 0, .int .i64 0, .slice Ao done.length co]] (.agg #[.int .i64 (n9 : Int), .int .i64 0, .int .i64 0, .int .i64 0, .int .i64 0, .int .i64 0, .int .i64 0, .bool false, .int .i64 0, .int .i64 0, .int .i64 0, .int .i64 0, .int .i64 0, .int .i64 0, .slice Ao done.length co]) ⟨⟨_, (by kernel_rfl), ldN (T := 32) (i := 0) (m := 15) (l := [.int .i64 (n9 : Int), .int .i64 0, .int .i64 0, .int .i64 0, .int .i64 0, .int .i64 0, .int .i64 0, .bool false, .int .i64 0, .int .i64 0, .int .i64 0, .int .i64 0, .int .i64 0, .int .i64 0, .slice Ao done.length co]) hb267⟩, trivial⟩ (k := ?_)
                    exact ⟨(⟨⟨(n9 : Int), (⟨0, ⟨0, 0, 0, 0, 0⟩, false, 0, 0, 0⟩ : GOp), 0, 0, 0, done⟩, Ao, co⟩ : GCmd), s, rfl, (ck_8 ph194 q11 q198 hrd (by omega)).kd h265 (by simp only; omega), hb208, hb204, K, l205, ol209⟩
              · have ph194 := ne_of_beq_false h194
                refine WC.skip ?_
                refine WX.blockN ?_
                refine WX.seqN ?_
                refine WC.seq ?_
                refine WC.seq ?_
                refine WC.region ?_
                refine WL.op (d := 75) (.pointer (some ⟨b, 0, none⟩)) (k := ?_)
                refine WL.op (d := 76) (.pointer (some ⟨b, 0, none⟩)) (k := ?_)
                refine WL.op (d := 77) (.pointer (some ⟨b, 1, none⟩)) (k := ?_)
                refine WL.load (v := .bool (!(s10.isSome))) (qr_bad (T := 4) hr12) (k := ?_)
                refine WL.nil ?_
                refine WX.seqN ?_
                refine WC.cond (b := !(s10.isSome)) (ht := fun h269 => ?_) (hf := fun h269 => ?_)
                · have h270 : (s10.isSome) = false := Bool.not_inj (y := false) h269
                  refine WC.seq ?_
                  refine WC.region ?_
                  refine WL.op (d := 79) (.agg #[.int .i64 0, .int .i64 0, .int .i64 0, .int .i64 0, .int .i64 0, .int .i64 0, .int .i64 0, .bool false, .int .i64 0, .int .i64 0, .int .i64 0, .int .i64 0, .int .i64 0, .int .i64 0, .slice none 0 0]) (k := ?_)
                  refine WL.store (v := .agg #[.int .i64 0, .int .i64 0, .int .i64 0, .int .i64 0, .int .i64 0, .int .i64 0, .int .i64 0, .bool false, .int .i64 0, .int .i64 0, .int .i64 0, .int .i64 0, .int .i64 0, .int .i64 0, .slice none 0 0]) (i := 0) (cs' := #[.int .i64 0, .int .i64 0, .int .i64 0, .int .i64 0, .int .i64 0, .int .i64 0, .int .i64 0, .bool false, .int .i64 0, .int .i64 0, .int .i64 0, .int .i64 0, .int .i64 0, .int .i64 0, .slice none 0 0]) hb4 (k := fun w271 hb272 k273 => ?_)
                  replace hr12 := hr12.keeps k273 n7
                  replace hb25 := k273.heap hb25 (Ne.symm n23)
                  replace K := K.trans' k273 (fun i hi e => absurd (e ▸ hi) (Nat.not_lt.2 z6))
                  clear hb4
                  refine WL.nil ?_
                  refine WX.seqN ?_
                  refine WC.ret ?_
                  refine WX.seqR ?_
                  refine WX.ret (rs := [.cell 2 32]) [.agg #[.int .i64 0, .int .i64 0, .int .i64 0, .int .i64 0, .int .i64 0, .int .i64 0, .int .i64 0, .bool false, .int .i64 0, .int .i64 0, .int .i64 0, .int .i64 0, .int .i64 0, .int .i64 0, .slice none 0 0]] (.agg #[.int .i64 0, .int .i64 0, .int .i64 0, .int .i64 0, .int .i64 0, .int .i64 0, .int .i64 0, .bool false, .int .i64 0, .int .i64 0, .int .i64 0, .int .i64 0, .int .i64 0, .int .i64 0, .slice none 0 0]) ⟨⟨_, (by kernel_rfl), ldN (T := 32) (i := 0) (m := 15) (l := [.int .i64 0, .int .i64 0, .int .i64 0, .int .i64 0, .int .i64 0, .int .i64 0, .int .i64 0, .bool false, .int .i64 0, .int .i64 0, .int .i64 0, .int .i64 0, .int .i64 0, .int .i64 0, .slice none 0 0]) hb272⟩, trivial⟩ (k := ?_)
                  exact ⟨(⟨⟨0, (⟨0, ⟨0, 0, 0, 0, 0⟩, false, 0, 0, 0⟩ : GOp), 0, 0, 0, []⟩, none, 0⟩ : GCmd), s10, rfl, (ck_6' ph27 ph67 ph99 ph131 ph173 ph152 ph194 q11).z (by simp [h270]) rfl, OwAt.nil, hr12, K, l14, (by simp [blk])⟩
                · have h274 : (s10.isSome) = true := Bool.not_inj (y := true) h269
                  refine WC.skip ?_
                  refine WX.seqN ?_
                  refine WC.seq ?_
                  refine WC.region ?_
                  refine WL.load (v := .agg #[.int .i64 (n9 : Int), .int .i64 0, .int .i64 0, .int .i64 0, .int .i64 0, .int .i64 0, .int .i64 0, .bool false, .int .i64 0, .int .i64 0, .int .i64 0, .int .i64 0, .int .i64 0, .int .i64 0, .slice none 0 0]) (ldN (T := 32) (i := 0) (m := 15) (l := [.int .i64 (n9 : Int), .int .i64 0, .int .i64 0, .int .i64 0, .int .i64 0, .int .i64 0, .int .i64 0, .bool false, .int .i64 0, .int .i64 0, .int .i64 0, .int .i64 0, .int .i64 0, .int .i64 0, .slice none 0 0]) hb25) (k := ?_)
                  refine WL.store (v := .agg #[.int .i64 (n9 : Int), .int .i64 0, .int .i64 0, .int .i64 0, .int .i64 0, .int .i64 0, .int .i64 0, .bool false, .int .i64 0, .int .i64 0, .int .i64 0, .int .i64 0, .int .i64 0, .int .i64 0, .slice none 0 0]) (i := 0) (cs' := #[.int .i64 (n9 : Int), .int .i64 0, .int .i64 0, .int .i64 0, .int .i64 0, .int .i64 0, .int .i64 0, .bool false, .int .i64 0, .int .i64 0, .int .i64 0, .int .i64 0, .int .i64 0, .int .i64 0, .slice none 0 0]) hb4 (k := fun w275 hb276 k277 => ?_)
                  replace hr12 := hr12.keeps k277 n7
                  replace hb25 := k277.heap hb25 (Ne.symm n23)
                  replace K := K.trans' k277 (fun i hi e => absurd (e ▸ hi) (Nat.not_lt.2 z6))
                  clear hb4
                  refine WL.nil ?_
                  refine WX.seqN ?_
                  refine WC.ret ?_
                  refine WX.ret (rs := [.cell 2 32]) [.agg #[.int .i64 (n9 : Int), .int .i64 0, .int .i64 0, .int .i64 0, .int .i64 0, .int .i64 0, .int .i64 0, .bool false, .int .i64 0, .int .i64 0, .int .i64 0, .int .i64 0, .int .i64 0, .int .i64 0, .slice none 0 0]] (.agg #[.int .i64 (n9 : Int), .int .i64 0, .int .i64 0, .int .i64 0, .int .i64 0, .int .i64 0, .int .i64 0, .bool false, .int .i64 0, .int .i64 0, .int .i64 0, .int .i64 0, .int .i64 0, .int .i64 0, .slice none 0 0]) ⟨⟨_, (by kernel_rfl), ldN (T := 32) (i := 0) (m := 15) (l := [.int .i64 (n9 : Int), .int .i64 0, .int .i64 0, .int .i64 0, .int .i64 0, .int .i64 0, .int .i64 0, .bool false, .int .i64 0, .int .i64 0, .int .i64 0, .int .i64 0, .int .i64 0, .int .i64 0, .slice none 0 0]) hb276⟩, trivial⟩ (k := ?_)
                  exact ⟨(⟨⟨(n9 : Int), (⟨0, ⟨0, 0, 0, 0, 0⟩, false, 0, 0, 0⟩ : GOp), 0, 0, 0, []⟩, none, 0⟩ : GCmd), s10, rfl, (ck_6' ph27 ph67 ph99 ph131 ph173 ph152 ph194 q11).iff ⟨fun h => by simp only; omega, fun h => ⟨h274, by simp only at h; omega⟩⟩, OwAt.nil, hr12, K, l14, (by simp [blk])⟩

end Go.Proofs.Ytfpdfjbooalgjaa
