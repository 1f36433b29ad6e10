/- Crashes. -/
import Derived.Test.YtdoenmokahbeaaaGreatDoorCk0
namespace Go.Proofs.YtdoenmokahbeaaaGreatDoor
open Go.RowKit
set_option linter.unusedVariables false
set_option linter.unusedSimpArgs false

set_option maxRecDepth 100000 in
set_option maxHeartbeats 4000000 in
theorem dRest_c {x y : Int} (h0 : 0 < y) (h1 : y ≤ 1000) (w : World) : Calls Tryz.prog 52 #[.int .i64 x, .int .i64 y] w fun e w' => e = .returned (.int .i64 (restF x y)) ∧ Adds w w' := by
  have K : Keeps (fun _ => False) w w := Keeps.refl _ w
  refine Calls.start Tryz.func52 rfl (by kernel_rfl) ?_
  refine WC.seq ?_
  refine WC.region ?_
  refine WL.op (d := 4) (.int .i64 0) (k := ?_)
  refine WL.nil ?_
  refine WX.seqN ?_
  refine WC.seq ?_
  refine WC.region ?_
  refine WL.op (d := 5) (.int .i64 x) (k := ?_)
  refine WL.op (d := 6) (.int .i64 y) (k := ?_)
  refine WL.bin (d := 7) (v := .int .i64 (Int.tmod x y)) (rem_run (by omega)) (k := ?_)
  have m1 := tmod_rng x y (by omega)
  obtain ⟨r2, e3⟩ : ∃ r : Int, Int.tmod x y = r := ⟨_, rfl⟩
  rw [e3] at m1
  refine WL.rw (t := 7) (v := .int .i64 r2) (congrArg (Value.int .i64) e3) (k := ?_)
  refine WL.op (d := 8) (.int .i64 y) (k := ?_)
  refine WL.opE (d := 9) (.int .i64 (IntKind.i64.wrap (r2 + y))) (v := .int .i64 (r2 + y)) (congrArg (Value.int .i64) (IntWalk.i64_in _ (by omega))) (k := ?_)
  refine WL.op (d := 10) (.int .i64 y) (k := ?_)
  refine WL.bin (d := 11) (v := .int .i64 (Int.tmod (r2 + y) y)) (rem_run (by omega)) (k := ?_)
  have m4 := tmod_rng (r2 + y) y (by omega)
  obtain ⟨r5, e6⟩ : ∃ r : Int, Int.tmod (r2 + y) y = r := ⟨_, rfl⟩
  rw [e6] at m4
  refine WL.rw (t := 11) (v := .int .i64 r5) (congrArg (Value.int .i64) e6) (k := ?_)
  refine WL.op (d := 4) (.int .i64 r5) (k := ?_)
  refine WL.nil ?_
  refine WX.seqN ?_
  refine WC.ret ?_
  refine WX.ret (rs := [.tmp 4]) [.int .i64 r5] (.int .i64 r5) ⟨(by kernel_rfl), trivial⟩ (k := ?_)
  exact ⟨by rw [restF, e3, e6], K⟩

set_option maxRecDepth 100000 in
set_option maxHeartbeats 4000000 in
theorem dLeft_c {x y : Int} (w : World) : Calls Tryz.prog 37 #[.agg #[.int .i64 x, .int .i64 y]] w fun e w' => e = .returned (.int .i64 (leftF x y)) ∧ Adds w w' := by
  have K : Keeps (fun _ => False) w w := Keeps.refl _ w
  refine Calls.start Tryz.func37 rfl (by kernel_rfl) ?_
  refine WC.seq ?_
  refine WC.region ?_
  refine WL.new (d := 1) (T := 86) #[.int .i64 x, .int .i64 y] (k := fun b1 w2 g3 hb4 k5 => ?_)
  have z6 := Nat.le_trans K.size g3
  replace K := K.trans (k5.any _)
  refine WL.op (d := 2) (.int .i64 0) (k := ?_)
  refine WL.nil ?_
  refine WX.seqN ?_
  refine WC.seq ?_
  refine WC.seq ?_
  refine WC.region ?_
  refine WL.op (d := 3) (.pointer (some ⟨b1, 0, none⟩)) (k := ?_)
  refine WL.load (v := .int .i64 x) (ld1 (T := 3) (i := 0) hb4) (k := ?_)
  refine WL.callG (d := 5) (f := 52) (args := #[.int .i64 x, .int .i64 3]) (dRest_c (x := x) (y := 3) (by decide) (by decide) w2) (k := fun e_ w8 h_ => ⟨.int .i64 (restF x 3), h_.1, ?_⟩)
  have k9 := h_.2; clear h_
  replace hb4 := k9.heap hb4 id
  replace K := K.trans (k9.any _)
  have rr7 := restF_rng (n := x) (b := 3) (by decide)
  refine WL.nil ?_
  refine WX.seqN ?_
  refine WC.block ?_
  refine WC.seq ?_
  refine WC.region ?_
  refine WL.op (d := 7) (.bool ((restF x 3) == 1)) (k := ?_)
  refine WL.op (d := 6) (.bool ((restF x 3) == 1)) (k := ?_)
  refine WL.nil ?_
  refine WX.seqN ?_
  refine WC.cond (b := (restF x 3) == 1) (ht := fun h10 => ?_) (hf := fun h10 => ?_)
  · have ph10 := eq_of_beq h10
    refine WC.seq ?_
    refine WC.region ?_
    refine WL.op (d := 2) (.int .i64 64) (k := ?_)
    refine WL.nil ?_
    refine WX.seqN ?_
    refine WC.ret ?_
    refine WX.blockR ?_
    refine WX.seqR ?_
    refine WX.ret (rs := [.tmp 2]) [.int .i64 64] (.int .i64 64) ⟨(by kernel_rfl), trivial⟩ (k := ?_)
    exact ⟨by rw [leftF, if_pos ph10], K⟩
  · have ph10 := ne_of_beq_false h10
    refine WC.seq ?_
    refine WC.region ?_
    refine WL.op (d := 9) (.bool ((restF x 3) == 2)) (k := ?_)
    refine WL.op (d := 8) (.bool ((restF x 3) == 2)) (k := ?_)
    refine WL.nil ?_
    refine WX.seqN ?_
    refine WC.cond (b := (restF x 3) == 2) (ht := fun h11 => ?_) (hf := fun h11 => ?_)
    · have ph11 := eq_of_beq h11
      refine WC.seq ?_
      refine WC.region ?_
      refine WL.op (d := 10) (.pointer (some ⟨b1, 1, none⟩)) (k := ?_)
      refine WL.load (v := .int .i64 y) (ld1 (T := 3) (i := 1) hb4) (k := ?_)
      refine WL.callG (d := 12) (f := 52) (args := #[.int .i64 y, .int .i64 65]) (dRest_c (x := y) (y := 65) (by decide) (by decide) w8) (k := fun e_ w13 h_ => ⟨.int .i64 (restF y 65), h_.1, ?_⟩)
      have k14 := h_.2; clear h_
      replace hb4 := k14.heap hb4 id
      replace K := K.trans (k14.any _)
      have rr12 := restF_rng (n := y) (b := 65) (by decide)
      refine WL.op (d := 2) (.int .i64 (restF y 65)) (k := ?_)
      refine WL.nil ?_
      refine WX.seqN ?_
      refine WC.ret ?_
      refine WX.blockR ?_
      refine WX.seqR ?_
      refine WX.ret (rs := [.tmp 2]) [.int .i64 (restF y 65)] (.int .i64 (restF y 65)) ⟨(by kernel_rfl), trivial⟩ (k := ?_)
      exact ⟨by rw [leftF, if_neg ph10, if_pos ph11], K⟩
    · have ph11 := ne_of_beq_false h11
      refine WC.seq ?_
      refine WC.region ?_
      refine WL.op (d := 14) (.bool ((restF x 3) == 0)) (k := ?_)
      refine WL.op (d := 13) (.bool ((restF x 3) == 0)) (k := ?_)
      refine WL.nil ?_
      refine WX.seqN ?_
      refine WC.cond (b := (restF x 3) == 0) (ht := fun h15 => ?_) (hf := fun h15 => ?_)
      · have ph15 := eq_of_beq h15
        refine WC.seq ?_
        refine WC.region ?_
        refine WL.op (d := 2) (.int .i64 0) (k := ?_)
        refine WL.nil ?_
        refine WX.seqN ?_
        refine WC.ret ?_
        refine WX.blockR ?_
        refine WX.seqR ?_
        refine WX.ret (rs := [.tmp 2]) [.int .i64 0] (.int .i64 0) ⟨(by kernel_rfl), trivial⟩ (k := ?_)
        exact ⟨by rw [leftF, if_neg ph10, if_neg ph11], K⟩
      · have ph15 := ne_of_beq_false h15
        refine WC.skip ?_
        refine WX.blockN ?_
        refine WX.seqN ?_
        refine WC.seq ?_
        refine WC.region ?_
        refine WL.op (d := 2) (.int .i64 0) (k := ?_)
        refine WL.nil ?_
        refine WX.seqN ?_
        refine WC.ret ?_
        refine WX.ret (rs := [.tmp 2]) [.int .i64 0] (.int .i64 0) ⟨(by kernel_rfl), trivial⟩ (k := ?_)
        exact ⟨by rw [leftF, if_neg ph10, if_neg ph11], K⟩

set_option maxRecDepth 100000 in
set_option maxHeartbeats 4000000 in
theorem dCrash_c {fs : List (Int × Int)} {A : Option Addr} {cf : Nat} {S : Nat → Prop} {b : Nat} {d : GDisk} {w : World} (hd : DiskAt S b d w) (hF : SlAt ftC 2 86 A fs w) (hFo : fs ≠ [] → ∀ p, A = some p → ¬ S p.block) (hfl : fs.length ≤ 9223372036854775807) : Calls Tryz.prog 14 #[.pointer (some ⟨b, 0, none⟩), .slice A fs.length cf] w fun e w' => e = .returned (.int .i64 (d.crashE fs)) ∧ DkPost S b (d.crashD fs) w w' := by
  have K : Keeps S w w := Keeps.refl _ w
  obtain ⟨A1, c1, A2, c2, hb, h1, h2, hS, ho⟩ := hd
  have ho2 := ho
  obtain ⟨os_, ow_, of0_, of1_, on_, om_⟩ := ho2
  refine Calls.start Tryz.func14 rfl (by kernel_rfl) ?_
  refine WC.seq ?_
  refine WC.region ?_
  refine WL.op (d := 4) (.int .i64 0) (k := ?_)
  refine WL.nil ?_
  refine WX.seqN ?_
  refine WC.scope ?_
  refine WC.seq ?_
  refine WC.seq ?_
  refine WC.region ?_
  refine WL.op (d := 9) (.pointer (some ⟨b, 0, none⟩)) (k := ?_)
  refine WL.op (d := 10) (.bool false) (k := ?_)
  refine WL.nil ?_
  refine WX.seqN ?_
  refine WC.condF (k := ?_)
  refine WC.skip ?_
  refine WX.seqN ?_
  refine WC.seq ?_
  refine WC.region ?_
  refine WL.op (d := 5) (.int .i64 0) (k := ?_)
  refine WL.nil ?_
  refine WX.seqN ?_
  refine WC.seq ?_
  refine WC.label ?_
  refine WX.seqN ?_
  refine WC.seq ?_
  refine WC.seq ?_
  refine WC.region ?_
  refine WL.op (d := 11) (.pointer (some ⟨b, 0, none⟩)) (k := ?_)
  refine WL.op (d := 12) (.pointer (some ⟨b, 0, none⟩)) (k := ?_)
  refine WL.op (d := 13) (.pointer (some ⟨b, 1, none⟩)) (k := ?_)
  refine WL.load (v := .slice A2 d.opn.length c2) (ld1 (T := 68) (i := 1) hb) (k := ?_)
  refine WL.op (d := 15) (.int .i64 (d.opn.length : Int)) (k := ?_)
  refine WL.op (d := 16) (.int .i64 0) (k := ?_)
  refine WL.nil ?_
  refine WX.seqN ?_
  refine WC.block ?_
  change OwAt secC 64 81 A1 c1 (Prod.fst (crashN fs d.opn d.secs (0 : Int).toNat)) w at h1
  refine WC.rw (t := 5) (v := .int .i64 (Prod.snd (crashN fs d.opn d.secs (0 : Int).toNat))) (rfl) (k := ?_)
  refine WC.loop (ι := Int) (fun (i : Int) => [(0, .pointer (some ⟨b, 0, none⟩)), (1, .slice A fs.length cf), (4, .int .i64 0), (9, .pointer (some ⟨b, 0, none⟩)), (10, .bool false), (11, .pointer (some ⟨b, 0, none⟩)), (12, .pointer (some ⟨b, 0, none⟩)), (13, .pointer (some ⟨b, 1, none⟩)), (14, .slice A2 d.opn.length c2), (15, .int .i64 (d.opn.length : Int)), (16, .int .i64 i), (5, .int .i64 (Prod.snd (crashN fs d.opn d.secs i.toNat)))]) (fun (i : Int) (w_ : World) => (Keeps S w w_) ∧ (w_.heap[b]? = some (.cells #[.slice A1 d.secs.length c1, .slice A2 d.opn.length c2, .int .i64 d.fail, .int .i64 d.reads] 70 (0, 0))) ∧ (OwAt secC 64 81 A1 c1 (Prod.fst (crashN fs d.opn d.secs i.toNat)) w_) ∧ (OwAt wrC 65 83 A2 c2 d.opn w_) ∧ (0 ≤ i) ∧ (i ≤ d.opn.length)) (fun (i : Int) => (d.opn.length - i).toNat) 0 ⟨(by kernel_rfl), (by kernel_rfl), (by kernel_rfl), (by kernel_rfl), (by kernel_rfl), (by kernel_rfl), (by kernel_rfl), (by kernel_rfl), (by kernel_rfl), (by kernel_rfl), (by kernel_rfl), (by kernel_rfl), trivial⟩ ⟨K, hb, h1, h2, Int.le_refl 0, (by omega)⟩ ?_
  rintro i w1 ⟨K, hb2, hb3, hb5, i0, i1⟩
  have pl_ := crashN_len (fs := fs) (o := d.opn) (s0 := d.secs) i.toNat
  have pc_ := crashN_less fs d.opn d.secs i.toNat
  refine WC.seq ?_
  refine WC.region ?_
  refine WL.op (d := 17) (.bool (decide (i < (d.opn.length : Int)))) (k := ?_)
  refine WL.nil ?_
  refine WX.seqN ?_
  refine WC.seq ?_
  refine WC.cond (b := decide (i < (d.opn.length : Int))) (ht := fun h7 => ?_) (hf := fun h7 => ?_)
  · have ph7 := of_decide_eq_true h7
    refine WC.skip ?_
    refine WX.seqN ?_
    refine WC.seq ?_
    refine WC.block ?_
    refine WC.seq ?_
    refine WC.region ?_
    refine WL.op (d := 18) (.int .i64 i) (k := ?_)
    obtain ⟨b8, o9, r10, hr11, hA12, he13⟩ := SlAt.at (hb5.sl ekWr) (i := i) (by omega) (by omega)
    refine WL.rw (t := 14) (v := .slice (some ⟨b8, o9, none⟩) d.opn.length c2) (congrArg (fun a => Value.slice a d.opn.length c2) hA12) (k := ?_)
    obtain ⟨w1_, w2_, w3_⟩ := ow_ _ (List.mem_of_getElem? hr11)
    refine WL.idx (T := 68) (E := 83) (m := 65) (b := b8) (o := o9) (len := d.opn.length) (cap := c2) (i := i) (kk := .i64) (d := 19) (by omega) (by omega) (k := ?_)
    refine WL.rw (t := 14) (v := .slice A2 d.opn.length c2) (congrArg (fun a => Value.slice a d.opn.length c2) (Eq.symm hA12)) (k := ?_)
    refine WL.load (v := wrV r10) (he13.ldW (T := 83)) (k := ?_)
    refine WL.new (d := 7) (T := 83) (Value.cells (wrV (0, []))) (k := fun b14 w15 g16 hb17 k18 => ?_)
    have z19 := Nat.le_trans K.size g16
    have n20 : b ≠ b14 := Nat.ne_of_lt (Nat.lt_of_lt_of_le (lt_of_heap hb2) g16)
    have n21 := OwAt.off_new hb3 g16
    have n22 := OwAt.off_new hb5 g16
    replace hb2 := k18.heap hb2 id
    replace hb3 := hb3.adds k18
    replace hb5 := hb5.adds k18
    replace he13 := he13.adds k18
    replace K := K.trans (k18.any _)
    refine WL.op (d := 6) (.int .i64 i) (k := ?_)
    refine WL.store (v := wrV r10) (i := 0) (cs' := (Value.cells (wrV r10))) hb17 (k := fun w23 hb24 k25 => ?_)
    replace hb2 := k25.heap hb2 n20
    replace hb3 := hb3.keeps k25 (fun i hi e => (n21) (e ▸ hi))
    replace hb5 := hb5.keeps k25 (fun i hi e => (n22) (e ▸ hi))
    replace K := K.trans' k25 (fun i hi e => absurd (e ▸ hi) (Nat.not_lt.2 z19))
    clear hb17
    refine WL.nil ?_
    refine WX.seqN ?_
    refine WC.seq ?_
    refine WC.region ?_
    refine WL.op (d := 8) (.int .i64 0) (k := ?_)
    refine WL.nil ?_
    refine WX.seqN ?_
    refine WC.seq ?_
    refine WC.seq ?_
    refine WC.region ?_
    refine WL.op (d := 21) (.int .i64 i) (k := ?_)
    refine WL.op (d := 22) (.slice A fs.length cf) (k := ?_)
    refine WL.op (d := 23) (.int .i64 (fs.length : Int)) (k := ?_)
    refine WL.op (d := 24) (.bool (decide (i < (fs.length : Int)))) (k := ?_)
    refine WL.nil ?_
    refine WX.seqN ?_
    refine WC.cond (b := decide (i < (fs.length : Int))) (ht := fun h26 => ?_) (hf := fun h26 => ?_)
    · have ph26 := of_decide_eq_true h26
      refine WC.region ?_
      refine WL.op (d := 25) (.slice A fs.length cf) (k := ?_)
      refine WL.op (d := 26) (.int .i64 i) (k := ?_)
      obtain ⟨b27, o28, r29, hr30, hA31, he32⟩ := SlAt.at hF (i := i) (by omega) (by omega)
      refine WL.rw (t := 25) (v := .slice (some ⟨b27, o28, none⟩) fs.length cf) (congrArg (fun a => Value.slice a fs.length cf) hA31) (k := ?_)
      refine WL.idx (T := 39) (E := 86) (m := 2) (b := b27) (o := o28) (len := fs.length) (cap := cf) (i := i) (kk := .i64) (d := 27) (by omega) (by omega) (k := ?_)
      refine WL.rw (t := 25) (v := .slice A fs.length cf) (congrArg (fun a => Value.slice a fs.length cf) (Eq.symm hA31)) (k := ?_)
      refine WL.load (v := .agg #[.int .i64 r29.1, .int .i64 r29.2]) ((he32.keeps K (hFo (ne_get hr30) _ hA31)).ldW (T := 86)) (k := ?_)
      refine WL.callG (d := 29) (f := 37) (args := #[.agg #[.int .i64 r29.1, .int .i64 r29.2]]) (dLeft_c (x := r29.1) (y := r29.2) w23) (k := fun e_ w34 h_ => ⟨.int .i64 (leftF r29.1 r29.2), h_.1, ?_⟩)
      have k35 := h_.2; clear h_
      replace hb2 := k35.heap hb2 id
      replace hb3 := hb3.adds k35
      replace hb5 := hb5.adds k35
      replace hb24 := k35.heap hb24 id
      replace K := K.trans (k35.any _)
      have rr33 := leftF_rng r29.1 r29.2
      refine WL.op (d := 8) (.int .i64 (leftF r29.1 r29.2)) (k := ?_)
      refine WL.nil ?_
      refine WX.seqN ?_
      refine WC.seq ?_
      refine WC.mixed (fun k => blk A1 = some k) 13 (k := fun w36 k37 => ?_)
      replace hb2 := k37.heap hb2 id
      replace hb3 := hb3.adds k37
      replace hb5 := hb5.adds k37
      replace hb24 := k37.heap hb24 id
      replace K := K.trans (k37.any _)
      have KC := Keeps.refl (fun k => blk A1 = some k) w36
      have bh38 := hb2
      have bh39 := hb24
      have Kb := K
      refine WA.quiet2 0 (d := 30) (.pointer (some ⟨b, 0, none⟩)) KC (hi := rfl) (k := ?_)
      refine WA.quiet2 1 (d := 31) (.pointer (some ⟨b, 0, none⟩)) KC (hi := rfl) (k := ?_)
      refine WA.quiet2 2 (d := 32) (.pointer (some ⟨b, 0, none⟩)) KC (hi := rfl) (k := ?_)
      refine WA.quietR2 3 (d := 33) (.slice A1 d.secs.length c1) KC (exec_load (fun w_ k_ => ld1 (T := 67) (i := 0) (k_.heap bh38 (hb3.offT hb2 (by decide))))) (hi := rfl) (k := ?_)
      refine WA.quiet2 4 (d := 34) (.pointer (some ⟨b14, 0, none⟩)) KC (hi := rfl) (k := ?_)
      refine WA.quietR2 5 (d := 35) (.int .i64 r10.1) KC (exec_load (fun w_ k_ => ld1 (T := 3) (i := 0) (k_.heap bh39 n21))) (hi := rfl) (k := ?_)
      obtain ⟨b40, o41, r42, hr43, hA44, he45⟩ := SlAt.at (hb3.sl ekSec) (i := r10.1) (by omega) (by omega)
      refine WA.rw (t := 33) (v := .slice (some ⟨b40, o41, none⟩) d.secs.length c1) (congrArg (fun a => Value.slice a d.secs.length c1) hA44) (k := ?_)
      have s1_ := crashN_all (fs := fs) ow_ os_ i.toNat _ (List.mem_of_getElem? hr43)
      refine WA.quietR2 6 (d := 36) (.pointer (some ⟨b40, o41 + (r10.1).toNat * 64, none⟩)) KC (exec_idx (T := 67) (E := 81) (m := 64) (b := b40) (o := o41) (len := d.secs.length) (cap := c1) (i := r10.1) (kk := .i64) (by omega) (by omega)) (hi := rfl) (k := ?_)
      refine WA.rw (t := 33) (v := .slice A1 d.secs.length c1) (congrArg (fun a => Value.slice a d.secs.length c1) (Eq.symm hA44)) (k := ?_)
      refine WA.quiet2 7 (d := 37) (.int .i64 (leftF r29.1 r29.2)) KC (hi := rfl) (k := ?_)
      refine WA.quietR2 8 (d := 38) (.slice (some ⟨b40, o41 + (r10.1).toNat * 64, none⟩) ((leftF r29.1 r29.2).toNat) 64) KC (exec_cut (vx := .pointer (some ⟨b40, o41 + (r10.1).toNat * 64, none⟩)) (lo' := none) (hi' := (some (.int .i64 (leftF r29.1 r29.2)))) (mx' := none) (fun w_ => run_sliceArr (E := 5) (n := leftF r29.1 r29.2) (by omega) (by omega))) (hi := rfl) (k := ?_)
      refine WA.quiet2 9 (d := 39) (.pointer (some ⟨b14, 1, none⟩)) KC (hi := rfl) (k := ?_)
      refine WA.quiet2 10 (d := 40) (.int .i64 (leftF r29.1 r29.2)) KC (hi := rfl) (k := ?_)
      refine WA.quietR2 11 (d := 41) (.slice (some ⟨b14, 1, none⟩) ((leftF r29.1 r29.2).toNat) 64) KC (exec_cut (vx := .pointer (some ⟨b14, 1, none⟩)) (lo' := none) (hi' := (some (.int .i64 (leftF r29.1 r29.2)))) (mx' := none) (fun w_ => run_sliceArr (E := 5) (n := leftF r29.1 r29.2) (by omega) (by omega))) (hi := rfl) (k := ?_)
      refine WA.step 12 (hi := rfl) (k := ?_)
      obtain ⟨w46, hc47, ho48, k49⟩ := run_copyEl (i := r10.1) (n := leftF r29.1 r29.2) (x := r10) hb3 hA44 (by omega) (by omega) hr43 (by omega) (by omega) hb24 (by omega) (by omega)
      refine WL.copyB (d := 42) (vx := .slice (some ⟨b40, o41 + (r10.1).toNat * 64, none⟩) ((leftF r29.1 r29.2).toNat) 64) (vy := .slice (some ⟨b14, 1, none⟩) ((leftF r29.1 r29.2).toNat) 64) (v := _) hc47 (k := ?_)
      clear hc47
      replace hb2 := k49.heap hb2 (hb3.offT hb2 (by decide))
      replace hb5 := hb5.keeps k49 (OwAt.offOw hb5 hb3 (by decide))
      replace hb24 := k49.heap hb24 n21
      replace K := K.trans' k49 (fun i hi e => (hS i).2 (.inr (.inl e)))
      replace KC := KC.trans' k49 (fun i hi e => e)
      clear hb3
      refine WL.nil ?_
      refine WX.nxt KC ?_
      refine WA.done (k := ?_)
      clear KC
      refine WX.seqN ?_
      refine WC.seq ?_
      refine WC.seq ?_
      refine WC.region ?_
      refine WL.op (d := 43) (.int .i64 (leftF r29.1 r29.2)) (k := ?_)
      refine WL.op (d := 44) (.bool ((leftF r29.1 r29.2) == 64)) (k := ?_)
      refine WL.nil ?_
      refine WX.seqN ?_
      refine WC.cond (b := (leftF r29.1 r29.2) == 64) (ht := fun h50 => ?_) (hf := fun h50 => ?_)
      · have ph50 := eq_of_beq h50
        refine WC.exit ?_
        refine WX.seqE ?_
        refine WX.blockE ?_
        refine WX.seqN ?_
        refine WC.region ?_
        refine WL.opE (d := 47) (.int .i64 (IntKind.i64.wrap (i + 1))) (v := .int .i64 (i + 1)) (congrArg (Value.int .i64) (IntWalk.i64_in _ (by omega))) (k := ?_)
        refine WL.op (d := 16) (.int .i64 (i + 1)) (k := ?_)
        refine WL.nil ?_
        refine WX.rw (t := 5) (v := .int .i64 (Prod.snd (crashN fs d.opn d.secs (i + 1).toNat))) (congrArg (Value.int .i64) (crash_l1 i0 hr11 (fateF_some hr30) ph50)) (k := ?_)
        have e51 : List.set (Prod.fst (crashN fs d.opn d.secs i.toNat)) (r10.1).toNat (mixS (leftF r29.1 r29.2) r10.2 r42) = Prod.fst (crashN fs d.opn d.secs (i + 1).toNat) := crash_step i0 hr11 hr43 (fateF_some hr30)
        rw [e51] at ho48
        refine WX.round (i + 1) (by show (d.opn.length - (i + 1)).toNat < (d.opn.length - i).toNat; omega) ⟨(by kernel_rfl), (by kernel_rfl), (by kernel_rfl), (by kernel_rfl), (by kernel_rfl), (by kernel_rfl), (by kernel_rfl), (by kernel_rfl), (by kernel_rfl), (by kernel_rfl), (by kernel_rfl), (by kernel_rfl), trivial⟩ ⟨K, hb2, ho48, hb5, (by omega), (by omega)⟩
      · have ph50 := ne_of_beq_false h50
        refine WC.skip ?_
        refine WX.seqN ?_
        refine WC.region ?_
        refine WL.op (d := 45) (.int .i64 (Prod.snd (crashN fs d.opn d.secs i.toNat))) (k := ?_)
        refine WL.opE (d := 46) (.int .i64 (IntKind.i64.wrap ((Prod.snd (crashN fs d.opn d.secs i.toNat)) + 1))) (v := .int .i64 ((Prod.snd (crashN fs d.opn d.secs i.toNat)) + 1)) (congrArg (Value.int .i64) (IntWalk.i64_in _ (by omega))) (k := ?_)
        refine WL.op (d := 5) (.int .i64 ((Prod.snd (crashN fs d.opn d.secs i.toNat)) + 1)) (k := ?_)
        refine WL.nil ?_
        refine WX.blockN ?_
        refine WX.seqN ?_
        refine WC.region ?_
        refine WL.opE (d := 47) (.int .i64 (IntKind.i64.wrap (i + 1))) (v := .int .i64 (i + 1)) (congrArg (Value.int .i64) (IntWalk.i64_in _ (by omega))) (k := ?_)
        refine WL.op (d := 16) (.int .i64 (i + 1)) (k := ?_)
        refine WL.nil ?_
        refine WX.rw (t := 5) (v := .int .i64 (Prod.snd (crashN fs d.opn d.secs (i + 1).toNat))) (congrArg (Value.int .i64) (crash_l2 i0 hr11 (fateF_some hr30) ph50)) (k := ?_)
        have e52 : List.set (Prod.fst (crashN fs d.opn d.secs i.toNat)) (r10.1).toNat (mixS (leftF r29.1 r29.2) r10.2 r42) = Prod.fst (crashN fs d.opn d.secs (i + 1).toNat) := crash_step i0 hr11 hr43 (fateF_some hr30)
        rw [e52] at ho48
        refine WX.round (i + 1) (by show (d.opn.length - (i + 1)).toNat < (d.opn.length - i).toNat; omega) ⟨(by kernel_rfl), (by kernel_rfl), (by kernel_rfl), (by kernel_rfl), (by kernel_rfl), (by kernel_rfl), (by kernel_rfl), (by kernel_rfl), (by kernel_rfl), (by kernel_rfl), (by kernel_rfl), (by kernel_rfl), trivial⟩ ⟨K, hb2, ho48, hb5, (by omega), (by omega)⟩
    · have ph26 := of_decide_eq_false h26
      refine WC.skip ?_
      refine WX.seqN ?_
      refine WC.seq ?_
      refine WC.mixed (fun k => blk A1 = some k) 13 (k := fun w53 k54 => ?_)
      replace hb2 := k54.heap hb2 id
      replace hb3 := hb3.adds k54
      replace hb5 := hb5.adds k54
      replace hb24 := k54.heap hb24 id
      replace K := K.trans (k54.any _)
      have KC := Keeps.refl (fun k => blk A1 = some k) w53
      have bh55 := hb2
      have bh56 := hb24
      have Kb := K
      refine WA.quiet2 0 (d := 30) (.pointer (some ⟨b, 0, none⟩)) KC (hi := rfl) (k := ?_)
      refine WA.quiet2 1 (d := 31) (.pointer (some ⟨b, 0, none⟩)) KC (hi := rfl) (k := ?_)
      refine WA.quiet2 2 (d := 32) (.pointer (some ⟨b, 0, none⟩)) KC (hi := rfl) (k := ?_)
      refine WA.quietR2 3 (d := 33) (.slice A1 d.secs.length c1) KC (exec_load (fun w_ k_ => ld1 (T := 67) (i := 0) (k_.heap bh55 (hb3.offT hb2 (by decide))))) (hi := rfl) (k := ?_)
      refine WA.quiet2 4 (d := 34) (.pointer (some ⟨b14, 0, none⟩)) KC (hi := rfl) (k := ?_)
      refine WA.quietR2 5 (d := 35) (.int .i64 r10.1) KC (exec_load (fun w_ k_ => ld1 (T := 3) (i := 0) (k_.heap bh56 n21))) (hi := rfl) (k := ?_)
      obtain ⟨b57, o58, r59, hr60, hA61, he62⟩ := SlAt.at (hb3.sl ekSec) (i := r10.1) (by omega) (by omega)
      refine WA.rw (t := 33) (v := .slice (some ⟨b57, o58, none⟩) d.secs.length c1) (congrArg (fun a => Value.slice a d.secs.length c1) hA61) (k := ?_)
      have s1_ := crashN_all (fs := fs) ow_ os_ i.toNat _ (List.mem_of_getElem? hr60)
      refine WA.quietR2 6 (d := 36) (.pointer (some ⟨b57, o58 + (r10.1).toNat * 64, none⟩)) KC (exec_idx (T := 67) (E := 81) (m := 64) (b := b57) (o := o58) (len := d.secs.length) (cap := c1) (i := r10.1) (kk := .i64) (by omega) (by omega)) (hi := rfl) (k := ?_)
      refine WA.rw (t := 33) (v := .slice A1 d.secs.length c1) (congrArg (fun a => Value.slice a d.secs.length c1) (Eq.symm hA61)) (k := ?_)
      refine WA.quiet2 7 (d := 37) (.int .i64 0) KC (hi := rfl) (k := ?_)
      refine WA.quietR2 8 (d := 38) (.slice (some ⟨b57, o58 + (r10.1).toNat * 64, none⟩) 0 64) KC (exec_cut (vx := .pointer (some ⟨b57, o58 + (r10.1).toNat * 64, none⟩)) (lo' := none) (hi' := (some (.int .i64 0))) (mx' := none) (fun w_ => run_sliceArr (E := 5) (n := 0) (by omega) (by omega))) (hi := rfl) (k := ?_)
      refine WA.quiet2 9 (d := 39) (.pointer (some ⟨b14, 1, none⟩)) KC (hi := rfl) (k := ?_)
      refine WA.quiet2 10 (d := 40) (.int .i64 0) KC (hi := rfl) (k := ?_)
      refine WA.quietR2 11 (d := 41) (.slice (some ⟨b14, 1, none⟩) 0 64) KC (exec_cut (vx := .pointer (some ⟨b14, 1, none⟩)) (lo' := none) (hi' := (some (.int .i64 0))) (mx' := none) (fun w_ => run_sliceArr (E := 5) (n := 0) (by omega) (by omega))) (hi := rfl) (k := ?_)
      refine WA.step 12 (hi := rfl) (k := ?_)
      obtain ⟨w63, hc64, ho65, k66⟩ := run_copyEl (i := r10.1) (n := 0) (x := r10) hb3 hA61 (by omega) (by omega) hr60 (by omega) (by omega) hb24 (by omega) (by omega)
      refine WL.copyB (d := 42) (vx := .slice (some ⟨b57, o58 + (r10.1).toNat * 64, none⟩) 0 64) (vy := .slice (some ⟨b14, 1, none⟩) 0 64) (v := _) hc64 (k := ?_)
      clear hc64
      replace hb2 := k66.heap hb2 (hb3.offT hb2 (by decide))
      replace hb5 := hb5.keeps k66 (OwAt.offOw hb5 hb3 (by decide))
      replace hb24 := k66.heap hb24 n21
      replace K := K.trans' k66 (fun i hi e => (hS i).2 (.inr (.inl e)))
      replace KC := KC.trans' k66 (fun i hi e => e)
      clear hb3
      refine WL.nil ?_
      refine WX.nxt KC ?_
      refine WA.done (k := ?_)
      clear KC
      refine WX.seqN ?_
      refine WC.seq ?_
      refine WC.seq ?_
      refine WC.region ?_
      refine WL.op (d := 43) (.int .i64 0) (k := ?_)
      refine WL.op (d := 44) (.bool false) (k := ?_)
      refine WL.nil ?_
      refine WX.seqN ?_
      refine WC.condF (k := ?_)
      refine WC.skip ?_
      refine WX.seqN ?_
      refine WC.region ?_
      refine WL.op (d := 45) (.int .i64 (Prod.snd (crashN fs d.opn d.secs i.toNat))) (k := ?_)
      refine WL.opE (d := 46) (.int .i64 (IntKind.i64.wrap ((Prod.snd (crashN fs d.opn d.secs i.toNat)) + 1))) (v := .int .i64 ((Prod.snd (crashN fs d.opn d.secs i.toNat)) + 1)) (congrArg (Value.int .i64) (IntWalk.i64_in _ (by omega))) (k := ?_)
      refine WL.op (d := 5) (.int .i64 ((Prod.snd (crashN fs d.opn d.secs i.toNat)) + 1)) (k := ?_)
      refine WL.nil ?_
      refine WX.blockN ?_
      refine WX.seqN ?_
      refine WC.region ?_
      refine WL.opE (d := 47) (.int .i64 (IntKind.i64.wrap (i + 1))) (v := .int .i64 (i + 1)) (congrArg (Value.int .i64) (IntWalk.i64_in _ (by omega))) (k := ?_)
      refine WL.op (d := 16) (.int .i64 (i + 1)) (k := ?_)
      refine WL.nil ?_
      refine WX.rw (t := 5) (v := .int .i64 (Prod.snd (crashN fs d.opn d.secs (i + 1).toNat))) (congrArg (Value.int .i64) (crash_l2 i0 hr11 (fateF_none (by omega)) (by decide))) (k := ?_)
      have e67 : List.set (Prod.fst (crashN fs d.opn d.secs i.toNat)) (r10.1).toNat (mixS 0 r10.2 r59) = Prod.fst (crashN fs d.opn d.secs (i + 1).toNat) := crash_step i0 hr11 hr60 (fateF_none (by omega))
      rw [e67] at ho65
      refine WX.round (i + 1) (by show (d.opn.length - (i + 1)).toNat < (d.opn.length - i).toNat; omega) ⟨(by kernel_rfl), (by kernel_rfl), (by kernel_rfl), (by kernel_rfl), (by kernel_rfl), (by kernel_rfl), (by kernel_rfl), (by kernel_rfl), (by kernel_rfl), (by kernel_rfl), (by kernel_rfl), (by kernel_rfl), trivial⟩ ⟨K, hb2, ho65, hb5, (by omega), (by omega)⟩
  · have ph7 := of_decide_eq_false h7
    refine WC.exit ?_
    refine WX.seqE ?_
    refine WX.seqE ?_
    refine WX.blockE ?_
    refine WX.seqN ?_
    refine WC.seq ?_
    refine WC.region ?_
    refine WL.op (d := 48) (.pointer (some ⟨b, 0, none⟩)) (k := ?_)
    refine WL.op (d := 49) (.pointer (some ⟨b, 0, none⟩)) (k := ?_)
    refine WL.op (d := 50) (.pointer (some ⟨b, 0, none⟩)) (k := ?_)
    refine WL.op (d := 51) (.pointer (some ⟨b, 0, none⟩)) (k := ?_)
    refine WL.op (d := 52) (.pointer (some ⟨b, 1, none⟩)) (k := ?_)
    refine WL.store (v := .slice none 0 0) (i := 1) (cs' := #[.slice A1 d.secs.length c1, .slice none 0 0, .int .i64 d.fail, .int .i64 d.reads]) hb2 (k := fun w68 hb69 k70 => ?_)
    replace hb3 := hb3.keeps k70 (fun i hi e => (hb3.offT hb2 (by decide)) (e ▸ hi))
    replace hb5 := hb5.keeps k70 (fun i hi e => (hb5.offT hb2 (by decide)) (e ▸ hi))
    replace K := K.trans' k70 (fun i hi e => (hS i).2 (.inl e))
    clear hb2
    refine WL.op (d := 53) (.pointer (some ⟨b, 0, none⟩)) (k := ?_)
    refine WL.op (d := 54) (.pointer (some ⟨b, 2, none⟩)) (k := ?_)
    refine WL.store (v := .int .i64 0) (i := 2) (cs' := #[.slice A1 d.secs.length c1, .slice none 0 0, .int .i64 0, .int .i64 d.reads]) hb69 (k := fun w71 hb72 k73 => ?_)
    replace hb3 := hb3.keeps k73 (fun i hi e => (hb3.offT hb69 (by decide)) (e ▸ hi))
    replace hb5 := hb5.keeps k73 (fun i hi e => (hb5.offT hb69 (by decide)) (e ▸ hi))
    replace K := K.trans' k73 (fun i hi e => (hS i).2 (.inl e))
    clear hb69
    refine WL.op (d := 55) (.pointer (some ⟨b, 0, none⟩)) (k := ?_)
    refine WL.op (d := 56) (.pointer (some ⟨b, 3, none⟩)) (k := ?_)
    refine WL.store (v := .int .i64 0) (i := 3) (cs' := #[.slice A1 d.secs.length c1, .slice none 0 0, .int .i64 0, .int .i64 0]) hb72 (k := fun w74 hb75 k76 => ?_)
    replace hb3 := hb3.keeps k76 (fun i hi e => (hb3.offT hb72 (by decide)) (e ▸ hi))
    replace hb5 := hb5.keeps k76 (fun i hi e => (hb5.offT hb72 (by decide)) (e ▸ hi))
    replace K := K.trans' k76 (fun i hi e => (hS i).2 (.inl e))
    clear hb72
    refine WL.nil ?_
    refine WX.seqN ?_
    refine WC.seq ?_
    refine WC.region ?_
    refine WL.op (d := 57) (.int .i64 (Prod.snd (crashN fs d.opn d.secs i.toNat))) (k := ?_)
    refine WL.op (d := 4) (.int .i64 (Prod.snd (crashN fs d.opn d.secs i.toNat))) (k := ?_)
    refine WL.nil ?_
    refine WX.seqN ?_
    refine WC.ret ?_
    refine WX.scopeR ?_
    refine WX.ret (rs := [.tmp 4]) [.int .i64 (Prod.snd (crashN fs d.opn d.secs i.toNat))] (.int .i64 (Prod.snd (crashN fs d.opn d.secs i.toNat))) ⟨(by kernel_rfl), trivial⟩ (k := ?_)
    have q_ : i.toNat = d.opn.length := by omega
    rw [q_] at hb3
    rw [← crashN_len (fs := fs) (o := d.opn) (s0 := d.secs) d.opn.length] at hb75
    exact ⟨by rw [q_]; rfl, _, DiskAt.mk (d := d.crashD fs) hb75 hb3 OwAt.nil (GDisk.crashD_ok ho fs), flink hS, K⟩

end Go.Proofs.YtdoenmokahbeaaaGreatDoor
