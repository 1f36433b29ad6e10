/- TableReads. -/
import Derived.Test.YtpkcohhfkeinmaaStR
namespace Go.Proofs.Ytpkcohhfkeinmaa
open Go.RowKit
set_option linter.unusedVariables false
set_option linter.unusedSimpArgs false

set_option maxRecDepth 100000 in
theorem l14short_c (l : List UInt8) (n : Nat) (hn : n ≤ 1000000) (hl : l.length ≤ 9223372036854775807) (w : World) : Calls Try.prog 23 #[.string ⟨l.toArray⟩, .int .i64 (n : Int)] w fun e w' => ∃ l' : List UInt8, l'.length ≤ n ∧ e = .returned (.string ⟨l'.toArray⟩) ∧ Adds w w' := by
  have K : Keeps (fun _ => False) w w := Keeps.refl _ w
  refine Calls.start Try.func23 rfl (by kernel_rfl) ?_
  refine WC.seq ?_
  refine WC.region ?_
  refine WL.op (d := 4) (.string ⟨#[]⟩) (k := ?_)
  refine WL.nil ?_
  refine WX.seqN ?_
  refine WC.seq ?_
  refine WC.seq ?_
  refine WC.region ?_
  refine WL.op (d := 5) (.string ⟨(l).toArray⟩) (k := ?_)
  refine WL.op (d := 6) (.int .i64 (l.length : Int)) (k := ?_)
  refine WL.op (d := 7) (.int .i64 (n : Int)) (k := ?_)
  refine WL.op (d := 8) (.bool (decide ((l.length : Int) > (n : Int)))) (k := ?_)
  refine WL.nil ?_
  refine WX.seqN ?_
  refine WC.cond (b := decide ((l.length : Int) > (n : Int))) (ht := fun h1 => ?_) (hf := fun h1 => ?_)
  · have ph1 := of_decide_eq_true h1
    refine WC.seq ?_
    refine WC.region ?_
    refine WL.op (d := 9) (.string ⟨(l).toArray⟩) (k := ?_)
    refine WL.op (d := 10) (.int .i64 (n : Int)) (k := ?_)
    refine WL.cut (d := 11) (vx := .string ⟨(l).toArray⟩) (lo' := none) (hi' := (some (.int .i64 (n : Int)))) (mx' := none) (v := .string ⟨(List.take n l).toArray⟩) (run_cut (T := 9) (a := 0) (b := n) (l := l) (by kernel_rfl) (.inl ⟨rfl, rfl⟩) (.inr ⟨_, _, rfl, by omega⟩) (by first | omega | (simp; omega)) (by first | omega | (simp; omega))) (k := ?_)
    refine WL.op (d := 4) (.string ⟨(List.take n l).toArray⟩) (k := ?_)
    refine WL.nil ?_
    refine WX.seqN ?_
    refine WC.ret ?_
    refine WX.seqR ?_
    refine WX.ret (rs := [.tmp 4]) [.string ⟨(List.take n l).toArray⟩] (.string ⟨(List.take n l).toArray⟩) ⟨(by kernel_rfl), trivial⟩ (k := ?_)
    exact ⟨_, (by simp; omega), rfl, K⟩
  · have ph1 := of_decide_eq_false h1
    refine WC.skip ?_
    refine WX.seqN ?_
    refine WC.seq ?_
    refine WC.region ?_
    refine WL.op (d := 12) (.string ⟨(l).toArray⟩) (k := ?_)
    refine WL.op (d := 4) (.string ⟨(l).toArray⟩) (k := ?_)
    refine WL.nil ?_
    refine WX.seqN ?_
    refine WC.ret ?_
    refine WX.ret (rs := [.tmp 4]) [.string ⟨(l).toArray⟩] (.string ⟨(l).toArray⟩) ⟨(by kernel_rfl), trivial⟩ (k := ?_)
    exact ⟨_, (by omega), rfl, K⟩

set_option maxRecDepth 100000 in
set_option maxHeartbeats 4000000 in
theorem tableReads_any {L : Option Addr} {lc : Nat} {l : List GOp} {w : World} (hL : SlAt opC 10 46 L l w) (hl : l.length ≤ 9223372036854775807) (t : List UInt8) (ht : t.length ≤ 9223372036854775807) (q0 q1 q2 : Int) : Calls Try.prog 4 #[.slice L l.length lc, .string ⟨t.toArray⟩, .agg #[.int .i64 q0, .int .i64 q1, .int .i64 q2]] w fun e w' => e = .returned (.bool true) ∧ Adds w w' := by
  have K : Keeps (fun _ => False) w w := Keeps.refl _ w
  refine Calls.start Try.func4 rfl (by kernel_rfl) ?_
  refine WC.seq ?_
  refine WC.region ?_
  refine WL.new (d := 5) (T := 34) #[.int .i64 q0, .int .i64 q1, .int .i64 q2] (k := fun b1 w2 g3 hb4 k5 => ?_)
  have z6 := Nat.le_trans K.size g3
  replace K := K.trans (k5.any _)
  refine WL.op (d := 6) (.bool false) (k := ?_)
  refine WL.nil ?_
  refine WX.seqN ?_
  refine WC.seq ?_
  refine WC.region ?_
  refine WL.callG (d := 17) (f := 16) (args := #[]) (l14awake_c w2) (k := fun e_ w7 h_ => ⟨.bool true, h_.1, ?_⟩)
  have k8 := h_.2; clear h_
  replace hb4 := k8.heap hb4 id
  replace K := K.trans (k8.any _)
  refine WL.op (d := 7) (.bool true) (k := ?_)
  refine WL.nil ?_
  refine WX.seqN ?_
  refine WC.seq ?_
  refine WC.region ?_
  refine WL.op (d := 18) (.string ⟨(t).toArray⟩) (k := ?_)
  refine WL.callG (d := 19) (f := 23) (args := #[.string ⟨(t).toArray⟩, .int .i64 60]) (l14short_c t 60 (by omega) (by show List.length t ≤ _; first | omega | (simp; omega)) w7) (k := fun e_ w9 h_ => ?_)
  obtain ⟨l10, hl11, rfl, k12⟩ := h_
  refine ⟨_, rfl, ?_⟩
  replace hb4 := k12.heap hb4 id
  replace K := K.trans (k12.any _)
  refine WL.op (d := 1) (.string ⟨(l10).toArray⟩) (k := ?_)
  refine WL.nil ?_
  refine WX.seqN ?_
  refine WC.seq ?_
  refine WC.seq ?_
  refine WC.region ?_
  refine WL.op (d := 20) (.pointer (some ⟨b1, 0, none⟩)) (k := ?_)
  refine WL.load (v := .int .i64 q0) (ld1 (T := 3) (i := 0) hb4) (k := ?_)
  refine WL.bin (d := 22) (v := .int .i64 (bits BinOp.and IntKind.i64 q0 3)) (bits_run (by decide)) (k := ?_)
  refine WL.op (d := 23) (.bool ((bits BinOp.and IntKind.i64 q0 3) != 0)) (k := ?_)
  refine WL.nil ?_
  refine WX.seqN ?_
  refine WC.cond (b := (bits BinOp.and IntKind.i64 q0 3) != 0) (ht := fun h13 => ?_) (hf := fun h13 => ?_)
  · have ph13 := bne_iff_ne.1 h13
    refine WC.seq ?_
    have bl_ := bytesT_len (⟨(madeT l).rows, (madeT l).mode⟩ : GTable)
    refine WC.region ?_
    refine WL.op (d := 25) (.slice L l.length lc) (k := ?_)
    refine WL.callG (d := 26) (f := 18) (args := #[.slice L l.length lc]) (l14made_c (lc := lc) (hL.adds K) (by omega)) (k := fun e_ w14 h_ => ?_)
    obtain ⟨A15, c16, rfl, ho17, k18, ol19⟩ := h_
    refine ⟨_, rfl, ?_⟩
    have ol20 := fun i h => Nat.le_trans K.size (ol19 i h)
    replace hb4 := k18.heap hb4 id
    replace K := K.trans (k18.any _)
    clear ol19
    have ml21 := madeT_len l
    refine WL.callG (d := 27) (f := 24) (args := #[.agg #[.slice A15 (((madeT l).rows).length) c16, .int .i64 ((madeT l).mode)]]) (u14Bytes_c (cp := c16) (md := (madeT l).mode) (ho17.sl ekRow) (by first | omega | (simp; omega))) (k := fun e_ w22 h_ => ⟨.tuple #[.string ⟨(bytesT (⟨(madeT l).rows, ((madeT l).mode)⟩ : GTable)).toArray⟩, .int .i64 (bytesE (⟨(madeT l).rows, ((madeT l).mode)⟩ : GTable))], h_.1, ?_⟩)
    have k23 := h_.2; clear h_
    replace hb4 := k23.heap hb4 id
    replace ho17 := ho17.adds k23
    replace K := K.trans (k23.any _)
    refine WL.op (d := 24) (.tuple #[.string ⟨(bytesT (⟨(madeT l).rows, ((madeT l).mode)⟩ : GTable)).toArray⟩, .int .i64 (bytesE (⟨(madeT l).rows, ((madeT l).mode)⟩ : GTable))]) (k := ?_)
    refine WL.op (d := 28) (.string ⟨(bytesT (⟨(madeT l).rows, ((madeT l).mode)⟩ : GTable)).toArray⟩) (k := ?_)
    refine WL.op (d := 29) (.int .i64 (bytesE (⟨(madeT l).rows, ((madeT l).mode)⟩ : GTable))) (k := ?_)
    refine WL.op (d := 8) (.string ⟨(bytesT (⟨(madeT l).rows, ((madeT l).mode)⟩ : GTable)).toArray⟩) (k := ?_)
    refine WL.op (d := 9) (.int .i64 (bytesE (⟨(madeT l).rows, ((madeT l).mode)⟩ : GTable))) (k := ?_)
    refine WL.nil ?_
    refine WX.seqN ?_
    refine WC.seq ?_
    refine WC.region ?_
    refine WL.op (d := 30) (.string ⟨(bytesT (⟨(madeT l).rows, ((madeT l).mode)⟩ : GTable)).toArray⟩) (k := ?_)
    obtain ⟨b24, c25, w26, g27, hc28, hy29, k30⟩ := run_toBytesB (bytesT (⟨(madeT l).rows, ((madeT l).mode)⟩ : GTable)) w22
    refine WL.conv (d := 31) (vx := .string ⟨(bytesT (⟨(madeT l).rows, ((madeT l).mode)⟩ : GTable)).toArray⟩) (v := .slice (some ⟨b24, 0, none⟩) ((bytesT (⟨(madeT l).rows, ((madeT l).mode)⟩ : GTable)).length) c25) hc28 (k := ?_)
    clear hc28
    have z31 := Nat.le_trans K.size g27
    have n32 : b1 ≠ b24 := Nat.ne_of_lt (Nat.lt_of_lt_of_le (lt_of_heap hb4) g27)
    replace hb4 := k30.heap hb4 id
    replace ho17 := ho17.adds k30
    replace K := K.trans (k30.any _)
    refine WL.op (d := 10) (.slice (some ⟨b24, 0, none⟩) ((bytesT (⟨(madeT l).rows, ((madeT l).mode)⟩ : GTable)).length) c25) (k := ?_)
    refine WL.nil ?_
    refine WX.seqN ?_
    refine WC.seq ?_
    refine WC.region ?_
    refine WL.op (d := 32) (.slice (some ⟨b24, 0, none⟩) ((bytesT (⟨(madeT l).rows, ((madeT l).mode)⟩ : GTable)).length) c25) (k := ?_)
    refine WL.op (d := 33) (.int .i64 ((bytesT (⟨(madeT l).rows, ((madeT l).mode)⟩ : GTable)).length : Int)) (k := ?_)
    refine WL.op (d := 34) (.bool (decide (((bytesT (⟨(madeT l).rows, ((madeT l).mode)⟩ : GTable)).length : Int) > 0))) (k := ?_)
    refine WL.nil ?_
    refine WX.seqN ?_
    refine WC.cond (b := decide (((bytesT (⟨(madeT l).rows, ((madeT l).mode)⟩ : GTable)).length : Int) > 0)) (ht := fun h33 => ?_) (hf := fun h33 => ?_)
    · have ph33 := of_decide_eq_true h33
      refine WC.seq ?_
      refine WC.region ?_
      refine WL.op (d := 35) (.pointer (some ⟨b1, 1, none⟩)) (k := ?_)
      refine WL.load (v := .int .i64 q1) (ld1 (T := 3) (i := 1) hb4) (k := ?_)
      refine WL.op (d := 37) (.slice (some ⟨b24, 0, none⟩) ((bytesT (⟨(madeT l).rows, ((madeT l).mode)⟩ : GTable)).length) c25) (k := ?_)
      refine WL.op (d := 38) (.int .i64 ((bytesT (⟨(madeT l).rows, ((madeT l).mode)⟩ : GTable)).length : Int)) (k := ?_)
      refine WL.bin (d := 39) (v := .int .i64 (Int.tmod q1 ((bytesT (⟨(madeT l).rows, ((madeT l).mode)⟩ : GTable)).length : Int))) (rem_run (by omega)) (k := ?_)
      have m34 := tmod_rng q1 ((bytesT (⟨(madeT l).rows, ((madeT l).mode)⟩ : GTable)).length : Int) (by omega)
      obtain ⟨r35, e36⟩ : ∃ r : Int, Int.tmod q1 ((bytesT (⟨(madeT l).rows, ((madeT l).mode)⟩ : GTable)).length : Int) = r := ⟨_, rfl⟩
      rw [e36] at m34
      refine WL.rw (t := 39) (v := .int .i64 r35) (congrArg (Value.int .i64) e36) (k := ?_)
      refine WL.op (d := 40) (.slice (some ⟨b24, 0, none⟩) ((bytesT (⟨(madeT l).rows, ((madeT l).mode)⟩ : GTable)).length) c25) (k := ?_)
      refine WL.op (d := 41) (.int .i64 ((bytesT (⟨(madeT l).rows, ((madeT l).mode)⟩ : GTable)).length : Int)) (k := ?_)
      refine WL.opE (d := 42) (.int .i64 (IntKind.i64.wrap (r35 + ((bytesT (⟨(madeT l).rows, ((madeT l).mode)⟩ : GTable)).length : Int)))) (v := .int .i64 (r35 + ((bytesT (⟨(madeT l).rows, ((madeT l).mode)⟩ : GTable)).length : Int))) (congrArg (Value.int .i64) (IntWalk.i64_in _ (by omega))) (k := ?_)
      refine WL.op (d := 43) (.slice (some ⟨b24, 0, none⟩) ((bytesT (⟨(madeT l).rows, ((madeT l).mode)⟩ : GTable)).length) c25) (k := ?_)
      refine WL.op (d := 44) (.int .i64 ((bytesT (⟨(madeT l).rows, ((madeT l).mode)⟩ : GTable)).length : Int)) (k := ?_)
      refine WL.bin (d := 45) (v := .int .i64 (Int.tmod (r35 + ((bytesT (⟨(madeT l).rows, ((madeT l).mode)⟩ : GTable)).length : Int)) ((bytesT (⟨(madeT l).rows, ((madeT l).mode)⟩ : GTable)).length : Int))) (rem_run (by omega)) (k := ?_)
      have m37 := tmod_rng (r35 + ((bytesT (⟨(madeT l).rows, ((madeT l).mode)⟩ : GTable)).length : Int)) ((bytesT (⟨(madeT l).rows, ((madeT l).mode)⟩ : GTable)).length : Int) (by omega)
      obtain ⟨r38, e39⟩ : ∃ r : Int, Int.tmod (r35 + ((bytesT (⟨(madeT l).rows, ((madeT l).mode)⟩ : GTable)).length : Int)) ((bytesT (⟨(madeT l).rows, ((madeT l).mode)⟩ : GTable)).length : Int) = r := ⟨_, rfl⟩
      rw [e39] at m37
      refine WL.rw (t := 45) (v := .int .i64 r38) (congrArg (Value.int .i64) e39) (k := ?_)
      refine WL.op (d := 11) (.int .i64 r38) (k := ?_)
      refine WL.nil ?_
      refine WX.seqN ?_
      refine WC.seq ?_
      refine WC.tail 11 (k := ?_)
      refine WQ.op (d := 46) (.slice (some ⟨b24, 0, none⟩) ((bytesT (⟨(madeT l).rows, ((madeT l).mode)⟩ : GTable)).length) c25) (k := ?_)
      refine WQ.op (d := 47) (.int .i64 r38) (k := ?_)
      refine WQ.op (d := 48) (.slice (some ⟨b24, 0, none⟩) ((bytesT (⟨(madeT l).rows, ((madeT l).mode)⟩ : GTable)).length) c25) (k := ?_)
      refine WQ.op (d := 49) (.int .i64 r38) (k := ?_)
      refine WQ.idx (T := 39) (E := 5) (m := 1) (b := b24) (o := 0) (len := (bytesT (⟨(madeT l).rows, ((madeT l).mode)⟩ : GTable)).length) (cap := c25) (i := r38) (kk := .i64) (d := 50) (by omega) (by omega) (k := ?_)
      refine WQ.load (v := .int .u8 (((bytesT (⟨(madeT l).rows, ((madeT l).mode)⟩ : GTable))[0 + (r38).toNat * 1]'(by omega)).toNat : Int)) (fun w_ k_ => bytes_ld (i := 0 + (r38).toNat * 1) (hy29.keeps k_ id) (by omega)) (k := ?_)
      refine WQ.op (d := 52) (.pointer (some ⟨b1, 2, none⟩)) (k := ?_)
      refine WQ.load (v := .int .i64 q2) (fun w_ k_ => ld1 (T := 3) (i := 2) (k_.heap hb4 id)) (k := ?_)
      refine WQ.op (d := 54) (.int .u8 (IntKind.u8.wrap q2)) (k := ?_)
      refine WQ.bin (d := 55) (v := .int .u8 (bits BinOp.xor IntKind.u8 (((bytesT (⟨(madeT l).rows, ((madeT l).mode)⟩ : GTable))[0 + (r38).toNat * 1]'(by omega)).toNat : Int) (IntKind.u8.wrap q2))) (fun _ => bits_run (by decide)) (k := ?_)
      refine WQ.idx (T := 39) (E := 5) (m := 1) (b := b24) (o := 0) (len := (bytesT (⟨(madeT l).rows, ((madeT l).mode)⟩ : GTable)).length) (cap := c25) (i := r38) (kk := .i64) (d := 56) (by omega) (by omega) (k := ?_)
      refine WQ.nilL (fun w40 k41 => ?_)
      replace hb4 := k41.heap hb4 id
      replace ho17 := ho17.adds k41
      replace hy29 := hy29.keeps k41 id
      replace K := K.trans (k41.any _)
      obtain ⟨u42, hu43⟩ := bits_u8 BinOp.xor (((bytesT (⟨(madeT l).rows, ((madeT l).mode)⟩ : GTable))[0 + (r38).toNat * 1]'(by omega)).toNat : Int) (IntKind.u8.wrap q2)
      refine WL.rw (t := 55) (v := .int .u8 (u42.toNat : Int)) (congrArg (Value.int .u8) hu43) (k := ?_)
      obtain ⟨w44, hs45, hy46, k47⟩ := bytes_st (i := 0 + (r38).toNat * 1) hy29 (by omega) u42
      refine WL.wr (v := .int .u8 (u42.toNat : Int)) hs45 (k := ?_)
      replace hb4 := k47.heap hb4 n32
      replace ho17 := ho17.keeps k47 (fun i hi e => (ho17.offT hy29.2 (by decide)) (e ▸ hi))
      replace K := K.trans' k47 (fun i hi e => absurd (e ▸ hi) (Nat.not_lt.2 z31))
      clear hs45 hy29
      refine WL.nil ?_
      refine WX.seqN ?_
      refine WC.seq ?_
      refine WC.region ?_
      refine WL.op (d := 57) (.slice (some ⟨b24, 0, none⟩) ((bytesT (⟨(madeT l).rows, ((madeT l).mode)⟩ : GTable)).length) c25) (k := ?_)
      refine WL.conv (d := 58) (vx := .slice (some ⟨b24, 0, none⟩) ((bytesT (⟨(madeT l).rows, ((madeT l).mode)⟩ : GTable)).length) c25) (v := .string ⟨(List.set (bytesT (⟨(madeT l).rows, ((madeT l).mode)⟩ : GTable)) (0 + (r38).toNat * 1) u42).toArray⟩) (bytes_strN hy46 (by simp)) (k := ?_)
      refine WL.op (d := 1) (.string ⟨(List.set (bytesT (⟨(madeT l).rows, ((madeT l).mode)⟩ : GTable)) (0 + (r38).toNat * 1) u42).toArray⟩) (k := ?_)
      refine WL.nil ?_
      refine WX.seqN ?_
      refine WC.seq ?_
      refine WC.region ?_
      refine WL.op (d := 59) (.pointer (some ⟨b1, 0, none⟩)) (k := ?_)
      refine WL.load (v := .int .i64 q0) (ld1 (T := 3) (i := 0) hb4) (k := ?_)
      refine WL.bin (d := 61) (v := .int .i64 (bits BinOp.and IntKind.i64 q0 3)) (bits_run (by decide)) (k := ?_)
      refine WL.op (d := 62) (.bool ((bits BinOp.and IntKind.i64 q0 3) == 3)) (k := ?_)
      refine WL.nil ?_
      refine WX.seqN ?_
      refine WC.cond (b := (bits BinOp.and IntKind.i64 q0 3) == 3) (ht := fun h48 => ?_) (hf := fun h48 => ?_)
      · have ph48 := eq_of_beq h48
        refine WC.region ?_
        refine WL.op (d := 63) (.string ⟨(List.set (bytesT (⟨(madeT l).rows, ((madeT l).mode)⟩ : GTable)) (0 + (r38).toNat * 1) u42).toArray⟩) (k := ?_)
        refine WL.op (d := 64) (.int .i64 r38) (k := ?_)
        refine WL.cut (d := 65) (vx := .string ⟨(List.set (bytesT (⟨(madeT l).rows, ((madeT l).mode)⟩ : GTable)) (0 + (r38).toNat * 1) u42).toArray⟩) (lo' := none) (hi' := (some (.int .i64 r38))) (mx' := none) (v := .string ⟨(List.take r38.toNat (List.set (bytesT (⟨(madeT l).rows, ((madeT l).mode)⟩ : GTable)) (0 + (r38).toNat * 1) u42)).toArray⟩) (run_cut (T := 9) (a := 0) (b := r38.toNat) (l := (List.set (bytesT (⟨(madeT l).rows, ((madeT l).mode)⟩ : GTable)) (0 + (r38).toNat * 1) u42)) (by kernel_rfl) (.inl ⟨rfl, rfl⟩) (.inr ⟨_, _, rfl, by omega⟩) (by first | omega | (simp; omega)) (by first | omega | (simp; omega))) (k := ?_)
        refine WL.op (d := 1) (.string ⟨(List.take r38.toNat (List.set (bytesT (⟨(madeT l).rows, ((madeT l).mode)⟩ : GTable)) (0 + (r38).toNat * 1) u42)).toArray⟩) (k := ?_)
        refine WL.nil ?_
        refine WX.seqN ?_
        refine WC.seq ?_
        refine WC.region ?_
        refine WL.op (d := 67) (.string ⟨(List.take r38.toNat (List.set (bytesT (⟨(madeT l).rows, ((madeT l).mode)⟩ : GTable)) (0 + (r38).toNat * 1) u42)).toArray⟩) (k := ?_)
        refine WL.callG (d := 68) (f := 25) (args := #[.string ⟨(List.take r38.toNat (List.set (bytesT (⟨(madeT l).rows, ((madeT l).mode)⟩ : GTable)) (0 + (r38).toNat * 1) u42)).toArray⟩]) (tRead_c (List.take r38.toNat (List.set (bytesT (⟨(madeT l).rows, ((madeT l).mode)⟩ : GTable)) (0 + (r38).toNat * 1) u42)) (by show List.length (List.take r38.toNat (List.set (bytesT (⟨(madeT l).rows, ((madeT l).mode)⟩ : GTable)) (0 + (r38).toNat * 1) u42)) ≤ _; first | omega | (simp; omega)) w44) (k := fun e_ w49 h_ => ?_)
        obtain ⟨A50, c51, rfl, ho52, k53, ol54⟩ := h_
        refine ⟨_, rfl, ?_⟩
        have ol55 := fun i h => Nat.le_trans K.size (ol54 i h)
        replace hb4 := k53.heap hb4 id
        replace ho17 := ho17.adds k53
        replace hy46 := hy46.keeps k53 id
        replace K := K.trans (k53.any _)
        clear ol54
        have rl56 := readT_len (List.take r38.toNat (List.set (bytesT (⟨(madeT l).rows, ((madeT l).mode)⟩ : GTable)) (0 + (r38).toNat * 1) u42))
        refine WL.op (d := 66) (.tuple #[.agg #[.slice A50 (((readT (List.take r38.toNat (List.set (bytesT (⟨(madeT l).rows, ((madeT l).mode)⟩ : GTable)) (0 + (r38).toNat * 1) u42))).1.rows).length) c51, .int .i64 ((readT (List.take r38.toNat (List.set (bytesT (⟨(madeT l).rows, ((madeT l).mode)⟩ : GTable)) (0 + (r38).toNat * 1) u42))).1.mode)], .int .i64 ((readT (List.take r38.toNat (List.set (bytesT (⟨(madeT l).rows, ((madeT l).mode)⟩ : GTable)) (0 + (r38).toNat * 1) u42))).2)]) (k := ?_)
        refine WL.op (d := 69) (.agg #[.slice A50 (((readT (List.take r38.toNat (List.set (bytesT (⟨(madeT l).rows, ((madeT l).mode)⟩ : GTable)) (0 + (r38).toNat * 1) u42))).1.rows).length) c51, .int .i64 ((readT (List.take r38.toNat (List.set (bytesT (⟨(madeT l).rows, ((madeT l).mode)⟩ : GTable)) (0 + (r38).toNat * 1) u42))).1.mode)]) (k := ?_)
        refine WL.op (d := 70) (.int .i64 ((readT (List.take r38.toNat (List.set (bytesT (⟨(madeT l).rows, ((madeT l).mode)⟩ : GTable)) (0 + (r38).toNat * 1) u42))).2)) (k := ?_)
        refine WL.new (d := 12) (T := 24) #[.slice none 0 0, .int .i64 0] (k := fun b57 w58 g59 hb60 k61 => ?_)
        have z62 := Nat.le_trans K.size g59
        have n63 : b1 ≠ b57 := Nat.ne_of_lt (Nat.lt_of_lt_of_le (lt_of_heap hb4) g59)
        have n64 : b24 ≠ b57 := Nat.ne_of_lt (Nat.lt_of_lt_of_le hy46.lt g59)
        replace hb4 := k61.heap hb4 id
        replace ho17 := ho17.adds k61
        replace hy46 := hy46.keeps k61 id
        replace ho52 := ho52.adds k61
        replace K := K.trans (k61.any _)
        refine WL.store (v := .agg #[.slice A50 (((readT (List.take r38.toNat (List.set (bytesT (⟨(madeT l).rows, ((madeT l).mode)⟩ : GTable)) (0 + (r38).toNat * 1) u42))).1.rows).length) c51, .int .i64 ((readT (List.take r38.toNat (List.set (bytesT (⟨(madeT l).rows, ((madeT l).mode)⟩ : GTable)) (0 + (r38).toNat * 1) u42))).1.mode)]) (i := 0) (cs' := #[.slice A50 (((readT (List.take r38.toNat (List.set (bytesT (⟨(madeT l).rows, ((madeT l).mode)⟩ : GTable)) (0 + (r38).toNat * 1) u42))).1.rows).length) c51, .int .i64 ((readT (List.take r38.toNat (List.set (bytesT (⟨(madeT l).rows, ((madeT l).mode)⟩ : GTable)) (0 + (r38).toNat * 1) u42))).1.mode)]) hb60 (k := fun w65 hb66 k67 => ?_)
        replace hb4 := k67.heap hb4 n63
        replace ho17 := ho17.keeps k67 (fun i hi e => (ho17.offT hb60 (by decide)) (e ▸ hi))
        replace hy46 := hy46.keeps k67 n64
        replace ho52 := ho52.keeps k67 (fun i hi e => (ho52.offT hb60 (by decide)) (e ▸ hi))
        replace K := K.trans' k67 (fun i hi e => absurd (e ▸ hi) (Nat.not_lt.2 z62))
        clear hb60
        refine WL.op (d := 13) (.int .i64 ((readT (List.take r38.toNat (List.set (bytesT (⟨(madeT l).rows, ((madeT l).mode)⟩ : GTable)) (0 + (r38).toNat * 1) u42))).2)) (k := ?_)
        refine WL.nil ?_
        refine WX.seqN ?_
        refine WC.seq ?_
        refine WC.region ?_
        refine WL.op (d := 72) (.string ⟨(List.take r38.toNat (List.set (bytesT (⟨(madeT l).rows, ((madeT l).mode)⟩ : GTable)) (0 + (r38).toNat * 1) u42)).toArray⟩) (k := ?_)
        refine WL.callG (d := 73) (f := 26) (args := #[.string ⟨(List.take r38.toNat (List.set (bytesT (⟨(madeT l).rows, ((madeT l).mode)⟩ : GTable)) (0 + (r38).toNat * 1) u42)).toArray⟩]) (u14Read_c (List.take r38.toNat (List.set (bytesT (⟨(madeT l).rows, ((madeT l).mode)⟩ : GTable)) (0 + (r38).toNat * 1) u42)) (by show List.length (List.take r38.toNat (List.set (bytesT (⟨(madeT l).rows, ((madeT l).mode)⟩ : GTable)) (0 + (r38).toNat * 1) u42)) ≤ _; first | omega | (simp; omega)) w65) (k := fun e_ w68 h_ => ?_)
        obtain ⟨A69, c70, rfl, ho71, k72, ol73⟩ := h_
        refine ⟨_, rfl, ?_⟩
        have ol74 := fun i h => Nat.le_trans K.size (ol73 i h)
        replace hb4 := k72.heap hb4 id
        replace ho17 := ho17.adds k72
        replace hy46 := hy46.keeps k72 id
        replace ho52 := ho52.adds k72
        replace hb66 := k72.heap hb66 id
        replace K := K.trans (k72.any _)
        clear ol73
        have rl75 := readT_len (List.take r38.toNat (List.set (bytesT (⟨(madeT l).rows, ((madeT l).mode)⟩ : GTable)) (0 + (r38).toNat * 1) u42))
        refine WL.op (d := 71) (.tuple #[.agg #[.slice A69 (((readT (List.take r38.toNat (List.set (bytesT (⟨(madeT l).rows, ((madeT l).mode)⟩ : GTable)) (0 + (r38).toNat * 1) u42))).1.rows).length) c70, .int .i64 ((readT (List.take r38.toNat (List.set (bytesT (⟨(madeT l).rows, ((madeT l).mode)⟩ : GTable)) (0 + (r38).toNat * 1) u42))).1.mode)], .int .i64 ((readT (List.take r38.toNat (List.set (bytesT (⟨(madeT l).rows, ((madeT l).mode)⟩ : GTable)) (0 + (r38).toNat * 1) u42))).2)]) (k := ?_)
        refine WL.op (d := 74) (.agg #[.slice A69 (((readT (List.take r38.toNat (List.set (bytesT (⟨(madeT l).rows, ((madeT l).mode)⟩ : GTable)) (0 + (r38).toNat * 1) u42))).1.rows).length) c70, .int .i64 ((readT (List.take r38.toNat (List.set (bytesT (⟨(madeT l).rows, ((madeT l).mode)⟩ : GTable)) (0 + (r38).toNat * 1) u42))).1.mode)]) (k := ?_)
        refine WL.op (d := 75) (.int .i64 ((readT (List.take r38.toNat (List.set (bytesT (⟨(madeT l).rows, ((madeT l).mode)⟩ : GTable)) (0 + (r38).toNat * 1) u42))).2)) (k := ?_)
        refine WL.new (d := 14) (T := 24) #[.slice none 0 0, .int .i64 0] (k := fun b76 w77 g78 hb79 k80 => ?_)
        have z81 := Nat.le_trans K.size g78
        have n82 : b1 ≠ b76 := Nat.ne_of_lt (Nat.lt_of_lt_of_le (lt_of_heap hb4) g78)
        have n83 : b24 ≠ b76 := Nat.ne_of_lt (Nat.lt_of_lt_of_le hy46.lt g78)
        have n84 : b57 ≠ b76 := Nat.ne_of_lt (Nat.lt_of_lt_of_le (lt_of_heap hb66) g78)
        replace hb4 := k80.heap hb4 id
        replace ho17 := ho17.adds k80
        replace hy46 := hy46.keeps k80 id
        replace ho52 := ho52.adds k80
        replace hb66 := k80.heap hb66 id
        replace ho71 := ho71.adds k80
        replace K := K.trans (k80.any _)
        refine WL.store (v := .agg #[.slice A69 (((readT (List.take r38.toNat (List.set (bytesT (⟨(madeT l).rows, ((madeT l).mode)⟩ : GTable)) (0 + (r38).toNat * 1) u42))).1.rows).length) c70, .int .i64 ((readT (List.take r38.toNat (List.set (bytesT (⟨(madeT l).rows, ((madeT l).mode)⟩ : GTable)) (0 + (r38).toNat * 1) u42))).1.mode)]) (i := 0) (cs' := #[.slice A69 (((readT (List.take r38.toNat (List.set (bytesT (⟨(madeT l).rows, ((madeT l).mode)⟩ : GTable)) (0 + (r38).toNat * 1) u42))).1.rows).length) c70, .int .i64 ((readT (List.take r38.toNat (List.set (bytesT (⟨(madeT l).rows, ((madeT l).mode)⟩ : GTable)) (0 + (r38).toNat * 1) u42))).1.mode)]) hb79 (k := fun w85 hb86 k87 => ?_)
        replace hb4 := k87.heap hb4 n82
        replace ho17 := ho17.keeps k87 (fun i hi e => (ho17.offT hb79 (by decide)) (e ▸ hi))
        replace hy46 := hy46.keeps k87 n83
        replace ho52 := ho52.keeps k87 (fun i hi e => (ho52.offT hb79 (by decide)) (e ▸ hi))
        replace hb66 := k87.heap hb66 n84
        replace ho71 := ho71.keeps k87 (fun i hi e => (ho71.offT hb79 (by decide)) (e ▸ hi))
        replace K := K.trans' k87 (fun i hi e => absurd (e ▸ hi) (Nat.not_lt.2 z81))
        clear hb79
        refine WL.op (d := 15) (.int .i64 ((readT (List.take r38.toNat (List.set (bytesT (⟨(madeT l).rows, ((madeT l).mode)⟩ : GTable)) (0 + (r38).toNat * 1) u42))).2)) (k := ?_)
        refine WL.nil ?_
        refine WX.seqN ?_
        refine WC.seq ?_
        refine WC.region ?_
        refine WL.load (v := .agg #[.slice A50 (((readT (List.take r38.toNat (List.set (bytesT (⟨(madeT l).rows, ((madeT l).mode)⟩ : GTable)) (0 + (r38).toNat * 1) u42))).1.rows).length) c51, .int .i64 ((readT (List.take r38.toNat (List.set (bytesT (⟨(madeT l).rows, ((madeT l).mode)⟩ : GTable)) (0 + (r38).toNat * 1) u42))).1.mode)]) (ldN (T := 24) (i := 0) (m := 2) (l := [.slice A50 (((readT (List.take r38.toNat (List.set (bytesT (⟨(madeT l).rows, ((madeT l).mode)⟩ : GTable)) (0 + (r38).toNat * 1) u42))).1.rows).length) c51, .int .i64 ((readT (List.take r38.toNat (List.set (bytesT (⟨(madeT l).rows, ((madeT l).mode)⟩ : GTable)) (0 + (r38).toNat * 1) u42))).1.mode)]) hb66) (k := ?_)
        refine WL.load (v := .agg #[.slice A69 (((readT (List.take r38.toNat (List.set (bytesT (⟨(madeT l).rows, ((madeT l).mode)⟩ : GTable)) (0 + (r38).toNat * 1) u42))).1.rows).length) c70, .int .i64 ((readT (List.take r38.toNat (List.set (bytesT (⟨(madeT l).rows, ((madeT l).mode)⟩ : GTable)) (0 + (r38).toNat * 1) u42))).1.mode)]) (ldN (T := 24) (i := 0) (m := 2) (l := [.slice A69 (((readT (List.take r38.toNat (List.set (bytesT (⟨(madeT l).rows, ((madeT l).mode)⟩ : GTable)) (0 + (r38).toNat * 1) u42))).1.rows).length) c70, .int .i64 ((readT (List.take r38.toNat (List.set (bytesT (⟨(madeT l).rows, ((madeT l).mode)⟩ : GTable)) (0 + (r38).toNat * 1) u42))).1.mode)]) hb86) (k := ?_)
        refine WL.callG (d := 78) (f := 22) (args := #[.agg #[.slice A50 (((readT (List.take r38.toNat (List.set (bytesT (⟨(madeT l).rows, ((madeT l).mode)⟩ : GTable)) (0 + (r38).toNat * 1) u42))).1.rows).length) c51, .int .i64 ((readT (List.take r38.toNat (List.set (bytesT (⟨(madeT l).rows, ((madeT l).mode)⟩ : GTable)) (0 + (r38).toNat * 1) u42))).1.mode)], .agg #[.slice A69 (((readT (List.take r38.toNat (List.set (bytesT (⟨(madeT l).rows, ((madeT l).mode)⟩ : GTable)) (0 + (r38).toNat * 1) u42))).1.rows).length) c70, .int .i64 ((readT (List.take r38.toNat (List.set (bytesT (⟨(madeT l).rows, ((madeT l).mode)⟩ : GTable)) (0 + (r38).toNat * 1) u42))).1.mode)]]) (u14Same_r (cp := c51) (cq := c70) (ma := (readT (List.take r38.toNat (List.set (bytesT (⟨(madeT l).rows, ((madeT l).mode)⟩ : GTable)) (0 + (r38).toNat * 1) u42))).1.mode) (ho52.sl ekRow) (ho71.sl ekRow) (by first | omega | (simp; omega))) (k := fun e_ w88 h_ => ⟨.bool true, h_.1, ?_⟩)
        have k89 := h_.2; clear h_
        replace hb4 := k89.heap hb4 id
        replace ho17 := ho17.adds k89
        replace hy46 := hy46.keeps k89 id
        replace ho52 := ho52.adds k89
        replace hb66 := k89.heap hb66 id
        replace ho71 := ho71.adds k89
        replace hb86 := k89.heap hb86 id
        replace K := K.trans (k89.any _)
        refine WL.op (d := 16) (.bool true) (k := ?_)
        refine WL.nil ?_
        refine WX.seqN ?_
        refine WC.seq ?_
        refine WC.region ?_
        refine WL.op (d := 79) (.bool true) (k := ?_)
        refine WL.op (d := 80) (.bool true) (k := ?_)
        refine WL.op (d := 81) (.bool true) (k := ?_)
        refine WL.op (d := 82) (.bool true) (k := ?_)
        refine WL.op (d := 83) (.bool true) (k := ?_)
        refine WL.op (d := 84) (.int .i64 ((readT (List.take r38.toNat (List.set (bytesT (⟨(madeT l).rows, ((madeT l).mode)⟩ : GTable)) (0 + (r38).toNat * 1) u42))).2)) (k := ?_)
        refine WL.op (d := 85) (.int .i64 ((readT (List.take r38.toNat (List.set (bytesT (⟨(madeT l).rows, ((madeT l).mode)⟩ : GTable)) (0 + (r38).toNat * 1) u42))).2)) (k := ?_)
        refine WL.opE (d := 86) (.bool (((readT (List.take r38.toNat (List.set (bytesT (⟨(madeT l).rows, ((madeT l).mode)⟩ : GTable)) (0 + (r38).toNat * 1) u42))).2) == ((readT (List.take r38.toNat (List.set (bytesT (⟨(madeT l).rows, ((madeT l).mode)⟩ : GTable)) (0 + (r38).toNat * 1) u42))).2))) (v := .bool true) (congrArg Value.bool (beq_self_eq_true _)) (k := ?_)
        refine WL.op (d := 87) (.bool true) (k := ?_)
        refine WL.op (d := 6) (.bool true) (k := ?_)
        refine WL.nil ?_
        refine WX.seqN ?_
        refine WC.ret ?_
        refine WX.ret (rs := [.tmp 6]) [.bool true] (.bool true) ⟨(by kernel_rfl), trivial⟩ (k := ?_)
        exact ⟨rfl, K⟩
      · have ph48 := ne_of_beq_false h48
        refine WC.skip ?_
        refine WX.seqN ?_
        refine WC.seq ?_
        refine WC.region ?_
        refine WL.op (d := 67) (.string ⟨(List.set (bytesT (⟨(madeT l).rows, ((madeT l).mode)⟩ : GTable)) (0 + (r38).toNat * 1) u42).toArray⟩) (k := ?_)
        refine WL.callG (d := 68) (f := 25) (args := #[.string ⟨(List.set (bytesT (⟨(madeT l).rows, ((madeT l).mode)⟩ : GTable)) (0 + (r38).toNat * 1) u42).toArray⟩]) (tRead_c (List.set (bytesT (⟨(madeT l).rows, ((madeT l).mode)⟩ : GTable)) (0 + (r38).toNat * 1) u42) (by show List.length (List.set (bytesT (⟨(madeT l).rows, ((madeT l).mode)⟩ : GTable)) (0 + (r38).toNat * 1) u42) ≤ _; first | omega | (simp; omega)) w44) (k := fun e_ w90 h_ => ?_)
        obtain ⟨A91, c92, rfl, ho93, k94, ol95⟩ := h_
        refine ⟨_, rfl, ?_⟩
        have ol96 := fun i h => Nat.le_trans K.size (ol95 i h)
        replace hb4 := k94.heap hb4 id
        replace ho17 := ho17.adds k94
        replace hy46 := hy46.keeps k94 id
        replace K := K.trans (k94.any _)
        clear ol95
        have rl97 := readT_len (List.set (bytesT (⟨(madeT l).rows, ((madeT l).mode)⟩ : GTable)) (0 + (r38).toNat * 1) u42)
        refine WL.op (d := 66) (.tuple #[.agg #[.slice A91 (((readT (List.set (bytesT (⟨(madeT l).rows, ((madeT l).mode)⟩ : GTable)) (0 + (r38).toNat * 1) u42)).1.rows).length) c92, .int .i64 ((readT (List.set (bytesT (⟨(madeT l).rows, ((madeT l).mode)⟩ : GTable)) (0 + (r38).toNat * 1) u42)).1.mode)], .int .i64 ((readT (List.set (bytesT (⟨(madeT l).rows, ((madeT l).mode)⟩ : GTable)) (0 + (r38).toNat * 1) u42)).2)]) (k := ?_)
        refine WL.op (d := 69) (.agg #[.slice A91 (((readT (List.set (bytesT (⟨(madeT l).rows, ((madeT l).mode)⟩ : GTable)) (0 + (r38).toNat * 1) u42)).1.rows).length) c92, .int .i64 ((readT (List.set (bytesT (⟨(madeT l).rows, ((madeT l).mode)⟩ : GTable)) (0 + (r38).toNat * 1) u42)).1.mode)]) (k := ?_)
        refine WL.op (d := 70) (.int .i64 ((readT (List.set (bytesT (⟨(madeT l).rows, ((madeT l).mode)⟩ : GTable)) (0 + (r38).toNat * 1) u42)).2)) (k := ?_)
        refine WL.new (d := 12) (T := 24) #[.slice none 0 0, .int .i64 0] (k := fun b98 w99 g100 hb101 k102 => ?_)
        have z103 := Nat.le_trans K.size g100
        have n104 : b1 ≠ b98 := Nat.ne_of_lt (Nat.lt_of_lt_of_le (lt_of_heap hb4) g100)
        have n105 : b24 ≠ b98 := Nat.ne_of_lt (Nat.lt_of_lt_of_le hy46.lt g100)
        replace hb4 := k102.heap hb4 id
        replace ho17 := ho17.adds k102
        replace hy46 := hy46.keeps k102 id
        replace ho93 := ho93.adds k102
        replace K := K.trans (k102.any _)
        refine WL.store (v := .agg #[.slice A91 (((readT (List.set (bytesT (⟨(madeT l).rows, ((madeT l).mode)⟩ : GTable)) (0 + (r38).toNat * 1) u42)).1.rows).length) c92, .int .i64 ((readT (List.set (bytesT (⟨(madeT l).rows, ((madeT l).mode)⟩ : GTable)) (0 + (r38).toNat * 1) u42)).1.mode)]) (i := 0) (cs' := #[.slice A91 (((readT (List.set (bytesT (⟨(madeT l).rows, ((madeT l).mode)⟩ : GTable)) (0 + (r38).toNat * 1) u42)).1.rows).length) c92, .int .i64 ((readT (List.set (bytesT (⟨(madeT l).rows, ((madeT l).mode)⟩ : GTable)) (0 + (r38).toNat * 1) u42)).1.mode)]) hb101 (k := fun w106 hb107 k108 => ?_)
        replace hb4 := k108.heap hb4 n104
        replace ho17 := ho17.keeps k108 (fun i hi e => (ho17.offT hb101 (by decide)) (e ▸ hi))
        replace hy46 := hy46.keeps k108 n105
        replace ho93 := ho93.keeps k108 (fun i hi e => (ho93.offT hb101 (by decide)) (e ▸ hi))
        replace K := K.trans' k108 (fun i hi e => absurd (e ▸ hi) (Nat.not_lt.2 z103))
        clear hb101
        refine WL.op (d := 13) (.int .i64 ((readT (List.set (bytesT (⟨(madeT l).rows, ((madeT l).mode)⟩ : GTable)) (0 + (r38).toNat * 1) u42)).2)) (k := ?_)
        refine WL.nil ?_
        refine WX.seqN ?_
        refine WC.seq ?_
        refine WC.region ?_
        refine WL.op (d := 72) (.string ⟨(List.set (bytesT (⟨(madeT l).rows, ((madeT l).mode)⟩ : GTable)) (0 + (r38).toNat * 1) u42).toArray⟩) (k := ?_)
        refine WL.callG (d := 73) (f := 26) (args := #[.string ⟨(List.set (bytesT (⟨(madeT l).rows, ((madeT l).mode)⟩ : GTable)) (0 + (r38).toNat * 1) u42).toArray⟩]) (u14Read_c (List.set (bytesT (⟨(madeT l).rows, ((madeT l).mode)⟩ : GTable)) (0 + (r38).toNat * 1) u42) (by show List.length (List.set (bytesT (⟨(madeT l).rows, ((madeT l).mode)⟩ : GTable)) (0 + (r38).toNat * 1) u42) ≤ _; first | omega | (simp; omega)) w106) (k := fun e_ w109 h_ => ?_)
        obtain ⟨A110, c111, rfl, ho112, k113, ol114⟩ := h_
        refine ⟨_, rfl, ?_⟩
        have ol115 := fun i h => Nat.le_trans K.size (ol114 i h)
        replace hb4 := k113.heap hb4 id
        replace ho17 := ho17.adds k113
        replace hy46 := hy46.keeps k113 id
        replace ho93 := ho93.adds k113
        replace hb107 := k113.heap hb107 id
        replace K := K.trans (k113.any _)
        clear ol114
        have rl116 := readT_len (List.set (bytesT (⟨(madeT l).rows, ((madeT l).mode)⟩ : GTable)) (0 + (r38).toNat * 1) u42)
        refine WL.op (d := 71) (.tuple #[.agg #[.slice A110 (((readT (List.set (bytesT (⟨(madeT l).rows, ((madeT l).mode)⟩ : GTable)) (0 + (r38).toNat * 1) u42)).1.rows).length) c111, .int .i64 ((readT (List.set (bytesT (⟨(madeT l).rows, ((madeT l).mode)⟩ : GTable)) (0 + (r38).toNat * 1) u42)).1.mode)], .int .i64 ((readT (List.set (bytesT (⟨(madeT l).rows, ((madeT l).mode)⟩ : GTable)) (0 + (r38).toNat * 1) u42)).2)]) (k := ?_)
        refine WL.op (d := 74) (.agg #[.slice A110 (((readT (List.set (bytesT (⟨(madeT l).rows, ((madeT l).mode)⟩ : GTable)) (0 + (r38).toNat * 1) u42)).1.rows).length) c111, .int .i64 ((readT (List.set (bytesT (⟨(madeT l).rows, ((madeT l).mode)⟩ : GTable)) (0 + (r38).toNat * 1) u42)).1.mode)]) (k := ?_)
        refine WL.op (d := 75) (.int .i64 ((readT (List.set (bytesT (⟨(madeT l).rows, ((madeT l).mode)⟩ : GTable)) (0 + (r38).toNat * 1) u42)).2)) (k := ?_)
        refine WL.new (d := 14) (T := 24) #[.slice none 0 0, .int .i64 0] (k := fun b117 w118 g119 hb120 k121 => ?_)
        have z122 := Nat.le_trans K.size g119
        have n123 : b1 ≠ b117 := Nat.ne_of_lt (Nat.lt_of_lt_of_le (lt_of_heap hb4) g119)
        have n124 : b24 ≠ b117 := Nat.ne_of_lt (Nat.lt_of_lt_of_le hy46.lt g119)
        have n125 : b98 ≠ b117 := Nat.ne_of_lt (Nat.lt_of_lt_of_le (lt_of_heap hb107) g119)
        replace hb4 := k121.heap hb4 id
        replace ho17 := ho17.adds k121
        replace hy46 := hy46.keeps k121 id
        replace ho93 := ho93.adds k121
        replace hb107 := k121.heap hb107 id
        replace ho112 := ho112.adds k121
        replace K := K.trans (k121.any _)
        refine WL.store (v := .agg #[.slice A110 (((readT (List.set (bytesT (⟨(madeT l).rows, ((madeT l).mode)⟩ : GTable)) (0 + (r38).toNat * 1) u42)).1.rows).length) c111, .int .i64 ((readT (List.set (bytesT (⟨(madeT l).rows, ((madeT l).mode)⟩ : GTable)) (0 + (r38).toNat * 1) u42)).1.mode)]) (i := 0) (cs' := #[.slice A110 (((readT (List.set (bytesT (⟨(madeT l).rows, ((madeT l).mode)⟩ : GTable)) (0 + (r38).toNat * 1) u42)).1.rows).length) c111, .int .i64 ((readT (List.set (bytesT (⟨(madeT l).rows, ((madeT l).mode)⟩ : GTable)) (0 + (r38).toNat * 1) u42)).1.mode)]) hb120 (k := fun w126 hb127 k128 => ?_)
        replace hb4 := k128.heap hb4 n123
        replace ho17 := ho17.keeps k128 (fun i hi e => (ho17.offT hb120 (by decide)) (e ▸ hi))
        replace hy46 := hy46.keeps k128 n124
        replace ho93 := ho93.keeps k128 (fun i hi e => (ho93.offT hb120 (by decide)) (e ▸ hi))
        replace hb107 := k128.heap hb107 n125
        replace ho112 := ho112.keeps k128 (fun i hi e => (ho112.offT hb120 (by decide)) (e ▸ hi))
        replace K := K.trans' k128 (fun i hi e => absurd (e ▸ hi) (Nat.not_lt.2 z122))
        clear hb120
        refine WL.op (d := 15) (.int .i64 ((readT (List.set (bytesT (⟨(madeT l).rows, ((madeT l).mode)⟩ : GTable)) (0 + (r38).toNat * 1) u42)).2)) (k := ?_)
        refine WL.nil ?_
        refine WX.seqN ?_
        refine WC.seq ?_
        refine WC.region ?_
        refine WL.load (v := .agg #[.slice A91 (((readT (List.set (bytesT (⟨(madeT l).rows, ((madeT l).mode)⟩ : GTable)) (0 + (r38).toNat * 1) u42)).1.rows).length) c92, .int .i64 ((readT (List.set (bytesT (⟨(madeT l).rows, ((madeT l).mode)⟩ : GTable)) (0 + (r38).toNat * 1) u42)).1.mode)]) (ldN (T := 24) (i := 0) (m := 2) (l := [.slice A91 (((readT (List.set (bytesT (⟨(madeT l).rows, ((madeT l).mode)⟩ : GTable)) (0 + (r38).toNat * 1) u42)).1.rows).length) c92, .int .i64 ((readT (List.set (bytesT (⟨(madeT l).rows, ((madeT l).mode)⟩ : GTable)) (0 + (r38).toNat * 1) u42)).1.mode)]) hb107) (k := ?_)
        refine WL.load (v := .agg #[.slice A110 (((readT (List.set (bytesT (⟨(madeT l).rows, ((madeT l).mode)⟩ : GTable)) (0 + (r38).toNat * 1) u42)).1.rows).length) c111, .int .i64 ((readT (List.set (bytesT (⟨(madeT l).rows, ((madeT l).mode)⟩ : GTable)) (0 + (r38).toNat * 1) u42)).1.mode)]) (ldN (T := 24) (i := 0) (m := 2) (l := [.slice A110 (((readT (List.set (bytesT (⟨(madeT l).rows, ((madeT l).mode)⟩ : GTable)) (0 + (r38).toNat * 1) u42)).1.rows).length) c111, .int .i64 ((readT (List.set (bytesT (⟨(madeT l).rows, ((madeT l).mode)⟩ : GTable)) (0 + (r38).toNat * 1) u42)).1.mode)]) hb127) (k := ?_)
        refine WL.callG (d := 78) (f := 22) (args := #[.agg #[.slice A91 (((readT (List.set (bytesT (⟨(madeT l).rows, ((madeT l).mode)⟩ : GTable)) (0 + (r38).toNat * 1) u42)).1.rows).length) c92, .int .i64 ((readT (List.set (bytesT (⟨(madeT l).rows, ((madeT l).mode)⟩ : GTable)) (0 + (r38).toNat * 1) u42)).1.mode)], .agg #[.slice A110 (((readT (List.set (bytesT (⟨(madeT l).rows, ((madeT l).mode)⟩ : GTable)) (0 + (r38).toNat * 1) u42)).1.rows).length) c111, .int .i64 ((readT (List.set (bytesT (⟨(madeT l).rows, ((madeT l).mode)⟩ : GTable)) (0 + (r38).toNat * 1) u42)).1.mode)]]) (u14Same_r (cp := c92) (cq := c111) (ma := (readT (List.set (bytesT (⟨(madeT l).rows, ((madeT l).mode)⟩ : GTable)) (0 + (r38).toNat * 1) u42)).1.mode) (ho93.sl ekRow) (ho112.sl ekRow) (by first | omega | (simp; omega))) (k := fun e_ w129 h_ => ⟨.bool true, h_.1, ?_⟩)
        have k130 := h_.2; clear h_
        replace hb4 := k130.heap hb4 id
        replace ho17 := ho17.adds k130
        replace hy46 := hy46.keeps k130 id
        replace ho93 := ho93.adds k130
        replace hb107 := k130.heap hb107 id
        replace ho112 := ho112.adds k130
        replace hb127 := k130.heap hb127 id
        replace K := K.trans (k130.any _)
        refine WL.op (d := 16) (.bool true) (k := ?_)
        refine WL.nil ?_
        refine WX.seqN ?_
        refine WC.seq ?_
        refine WC.region ?_
        refine WL.op (d := 79) (.bool true) (k := ?_)
        refine WL.op (d := 80) (.bool true) (k := ?_)
        refine WL.op (d := 81) (.bool true) (k := ?_)
        refine WL.op (d := 82) (.bool true) (k := ?_)
        refine WL.op (d := 83) (.bool true) (k := ?_)
        refine WL.op (d := 84) (.int .i64 ((readT (List.set (bytesT (⟨(madeT l).rows, ((madeT l).mode)⟩ : GTable)) (0 + (r38).toNat * 1) u42)).2)) (k := ?_)
        refine WL.op (d := 85) (.int .i64 ((readT (List.set (bytesT (⟨(madeT l).rows, ((madeT l).mode)⟩ : GTable)) (0 + (r38).toNat * 1) u42)).2)) (k := ?_)
        refine WL.opE (d := 86) (.bool (((readT (List.set (bytesT (⟨(madeT l).rows, ((madeT l).mode)⟩ : GTable)) (0 + (r38).toNat * 1) u42)).2) == ((readT (List.set (bytesT (⟨(madeT l).rows, ((madeT l).mode)⟩ : GTable)) (0 + (r38).toNat * 1) u42)).2))) (v := .bool true) (congrArg Value.bool (beq_self_eq_true _)) (k := ?_)
        refine WL.op (d := 87) (.bool true) (k := ?_)
        refine WL.op (d := 6) (.bool true) (k := ?_)
        refine WL.nil ?_
        refine WX.seqN ?_
        refine WC.ret ?_
        refine WX.ret (rs := [.tmp 6]) [.bool true] (.bool true) ⟨(by kernel_rfl), trivial⟩ (k := ?_)
        exact ⟨rfl, K⟩
    · have ph33 := of_decide_eq_false h33
      refine WC.skip ?_
      refine WX.seqN ?_
      refine WC.seq ?_
      refine WC.region ?_
      refine WL.op (d := 67) (.string ⟨(l10).toArray⟩) (k := ?_)
      refine WL.callG (d := 68) (f := 25) (args := #[.string ⟨(l10).toArray⟩]) (tRead_c l10 (by show List.length l10 ≤ _; first | omega | (simp; omega)) w26) (k := fun e_ w131 h_ => ?_)
      obtain ⟨A132, c133, rfl, ho134, k135, ol136⟩ := h_
      refine ⟨_, rfl, ?_⟩
      have ol137 := fun i h => Nat.le_trans K.size (ol136 i h)
      replace hb4 := k135.heap hb4 id
      replace ho17 := ho17.adds k135
      replace hy29 := hy29.keeps k135 id
      replace K := K.trans (k135.any _)
      clear ol136
      have rl138 := readT_len l10
      refine WL.op (d := 66) (.tuple #[.agg #[.slice A132 (((readT l10).1.rows).length) c133, .int .i64 ((readT l10).1.mode)], .int .i64 ((readT l10).2)]) (k := ?_)
      refine WL.op (d := 69) (.agg #[.slice A132 (((readT l10).1.rows).length) c133, .int .i64 ((readT l10).1.mode)]) (k := ?_)
      refine WL.op (d := 70) (.int .i64 ((readT l10).2)) (k := ?_)
      refine WL.new (d := 12) (T := 24) #[.slice none 0 0, .int .i64 0] (k := fun b139 w140 g141 hb142 k143 => ?_)
      have z144 := Nat.le_trans K.size g141
      have n145 : b1 ≠ b139 := Nat.ne_of_lt (Nat.lt_of_lt_of_le (lt_of_heap hb4) g141)
      have n146 : b24 ≠ b139 := Nat.ne_of_lt (Nat.lt_of_lt_of_le hy29.lt g141)
      replace hb4 := k143.heap hb4 id
      replace ho17 := ho17.adds k143
      replace hy29 := hy29.keeps k143 id
      replace ho134 := ho134.adds k143
      replace K := K.trans (k143.any _)
      refine WL.store (v := .agg #[.slice A132 (((readT l10).1.rows).length) c133, .int .i64 ((readT l10).1.mode)]) (i := 0) (cs' := #[.slice A132 (((readT l10).1.rows).length) c133, .int .i64 ((readT l10).1.mode)]) hb142 (k := fun w147 hb148 k149 => ?_)
      replace hb4 := k149.heap hb4 n145
      replace ho17 := ho17.keeps k149 (fun i hi e => (ho17.offT hb142 (by decide)) (e ▸ hi))
      replace hy29 := hy29.keeps k149 n146
      replace ho134 := ho134.keeps k149 (fun i hi e => (ho134.offT hb142 (by decide)) (e ▸ hi))
      replace K := K.trans' k149 (fun i hi e => absurd (e ▸ hi) (Nat.not_lt.2 z144))
      clear hb142
      refine WL.op (d := 13) (.int .i64 ((readT l10).2)) (k := ?_)
      refine WL.nil ?_
      refine WX.seqN ?_
      refine WC.seq ?_
      refine WC.region ?_
      refine WL.op (d := 72) (.string ⟨(l10).toArray⟩) (k := ?_)
      refine WL.callG (d := 73) (f := 26) (args := #[.string ⟨(l10).toArray⟩]) (u14Read_c l10 (by show List.length l10 ≤ _; first | omega | (simp; omega)) w147) (k := fun e_ w150 h_ => ?_)
      obtain ⟨A151, c152, rfl, ho153, k154, ol155⟩ := h_
      refine ⟨_, rfl, ?_⟩
      have ol156 := fun i h => Nat.le_trans K.size (ol155 i h)
      replace hb4 := k154.heap hb4 id
      replace ho17 := ho17.adds k154
      replace hy29 := hy29.keeps k154 id
      replace ho134 := ho134.adds k154
      replace hb148 := k154.heap hb148 id
      replace K := K.trans (k154.any _)
      clear ol155
      have rl157 := readT_len l10
      refine WL.op (d := 71) (.tuple #[.agg #[.slice A151 (((readT l10).1.rows).length) c152, .int .i64 ((readT l10).1.mode)], .int .i64 ((readT l10).2)]) (k := ?_)
      refine WL.op (d := 74) (.agg #[.slice A151 (((readT l10).1.rows).length) c152, .int .i64 ((readT l10).1.mode)]) (k := ?_)
      refine WL.op (d := 75) (.int .i64 ((readT l10).2)) (k := ?_)
      refine WL.new (d := 14) (T := 24) #[.slice none 0 0, .int .i64 0] (k := fun b158 w159 g160 hb161 k162 => ?_)
      have z163 := Nat.le_trans K.size g160
      have n164 : b1 ≠ b158 := Nat.ne_of_lt (Nat.lt_of_lt_of_le (lt_of_heap hb4) g160)
      have n165 : b24 ≠ b158 := Nat.ne_of_lt (Nat.lt_of_lt_of_le hy29.lt g160)
      have n166 : b139 ≠ b158 := Nat.ne_of_lt (Nat.lt_of_lt_of_le (lt_of_heap hb148) g160)
      replace hb4 := k162.heap hb4 id
      replace ho17 := ho17.adds k162
      replace hy29 := hy29.keeps k162 id
      replace ho134 := ho134.adds k162
      replace hb148 := k162.heap hb148 id
      replace ho153 := ho153.adds k162
      replace K := K.trans (k162.any _)
      refine WL.store (v := .agg #[.slice A151 (((readT l10).1.rows).length) c152, .int .i64 ((readT l10).1.mode)]) (i := 0) (cs' := #[.slice A151 (((readT l10).1.rows).length) c152, .int .i64 ((readT l10).1.mode)]) hb161 (k := fun w167 hb168 k169 => ?_)
      replace hb4 := k169.heap hb4 n164
      replace ho17 := ho17.keeps k169 (fun i hi e => (ho17.offT hb161 (by decide)) (e ▸ hi))
      replace hy29 := hy29.keeps k169 n165
      replace ho134 := ho134.keeps k169 (fun i hi e => (ho134.offT hb161 (by decide)) (e ▸ hi))
      replace hb148 := k169.heap hb148 n166
      replace ho153 := ho153.keeps k169 (fun i hi e => (ho153.offT hb161 (by decide)) (e ▸ hi))
      replace K := K.trans' k169 (fun i hi e => absurd (e ▸ hi) (Nat.not_lt.2 z163))
      clear hb161
      refine WL.op (d := 15) (.int .i64 ((readT l10).2)) (k := ?_)
      refine WL.nil ?_
      refine WX.seqN ?_
      refine WC.seq ?_
      refine WC.region ?_
      refine WL.load (v := .agg #[.slice A132 (((readT l10).1.rows).length) c133, .int .i64 ((readT l10).1.mode)]) (ldN (T := 24) (i := 0) (m := 2) (l := [.slice A132 (((readT l10).1.rows).length) c133, .int .i64 ((readT l10).1.mode)]) hb148) (k := ?_)
      refine WL.load (v := .agg #[.slice A151 (((readT l10).1.rows).length) c152, .int .i64 ((readT l10).1.mode)]) (ldN (T := 24) (i := 0) (m := 2) (l := [.slice A151 (((readT l10).1.rows).length) c152, .int .i64 ((readT l10).1.mode)]) hb168) (k := ?_)
      refine WL.callG (d := 78) (f := 22) (args := #[.agg #[.slice A132 (((readT l10).1.rows).length) c133, .int .i64 ((readT l10).1.mode)], .agg #[.slice A151 (((readT l10).1.rows).length) c152, .int .i64 ((readT l10).1.mode)]]) (u14Same_r (cp := c133) (cq := c152) (ma := (readT l10).1.mode) (ho134.sl ekRow) (ho153.sl ekRow) (by first | omega | (simp; omega))) (k := fun e_ w170 h_ => ⟨.bool true, h_.1, ?_⟩)
      have k171 := h_.2; clear h_
      replace hb4 := k171.heap hb4 id
      replace ho17 := ho17.adds k171
      replace hy29 := hy29.keeps k171 id
      replace ho134 := ho134.adds k171
      replace hb148 := k171.heap hb148 id
      replace ho153 := ho153.adds k171
      replace hb168 := k171.heap hb168 id
      replace K := K.trans (k171.any _)
      refine WL.op (d := 16) (.bool true) (k := ?_)
      refine WL.nil ?_
      refine WX.seqN ?_
      refine WC.seq ?_
      refine WC.region ?_
      refine WL.op (d := 79) (.bool true) (k := ?_)
      refine WL.op (d := 80) (.bool true) (k := ?_)
      refine WL.op (d := 81) (.bool true) (k := ?_)
      refine WL.op (d := 82) (.bool true) (k := ?_)
      refine WL.op (d := 83) (.bool true) (k := ?_)
      refine WL.op (d := 84) (.int .i64 ((readT l10).2)) (k := ?_)
      refine WL.op (d := 85) (.int .i64 ((readT l10).2)) (k := ?_)
      refine WL.opE (d := 86) (.bool (((readT l10).2) == ((readT l10).2))) (v := .bool true) (congrArg Value.bool (beq_self_eq_true _)) (k := ?_)
      refine WL.op (d := 87) (.bool true) (k := ?_)
      refine WL.op (d := 6) (.bool true) (k := ?_)
      refine WL.nil ?_
      refine WX.seqN ?_
      refine WC.ret ?_
      refine WX.ret (rs := [.tmp 6]) [.bool true] (.bool true) ⟨(by kernel_rfl), trivial⟩ (k := ?_)
      exact ⟨rfl, K⟩
  · have ph13 := of_bne_false h13
    refine WC.skip ?_
    refine WX.seqN ?_
    refine WC.seq ?_
    refine WC.region ?_
    refine WL.op (d := 67) (.string ⟨(l10).toArray⟩) (k := ?_)
    refine WL.callG (d := 68) (f := 25) (args := #[.string ⟨(l10).toArray⟩]) (tRead_c l10 (by show List.length l10 ≤ _; first | omega | (simp; omega)) w9) (k := fun e_ w172 h_ => ?_)
    obtain ⟨A173, c174, rfl, ho175, k176, ol177⟩ := h_
    refine ⟨_, rfl, ?_⟩
    have ol178 := fun i h => Nat.le_trans K.size (ol177 i h)
    replace hb4 := k176.heap hb4 id
    replace K := K.trans (k176.any _)
    clear ol177
    have rl179 := readT_len l10
    refine WL.op (d := 66) (.tuple #[.agg #[.slice A173 (((readT l10).1.rows).length) c174, .int .i64 ((readT l10).1.mode)], .int .i64 ((readT l10).2)]) (k := ?_)
    refine WL.op (d := 69) (.agg #[.slice A173 (((readT l10).1.rows).length) c174, .int .i64 ((readT l10).1.mode)]) (k := ?_)
    refine WL.op (d := 70) (.int .i64 ((readT l10).2)) (k := ?_)
    refine WL.new (d := 12) (T := 24) #[.slice none 0 0, .int .i64 0] (k := fun b180 w181 g182 hb183 k184 => ?_)
    have z185 := Nat.le_trans K.size g182
    have n186 : b1 ≠ b180 := Nat.ne_of_lt (Nat.lt_of_lt_of_le (lt_of_heap hb4) g182)
    replace hb4 := k184.heap hb4 id
    replace ho175 := ho175.adds k184
    replace K := K.trans (k184.any _)
    refine WL.store (v := .agg #[.slice A173 (((readT l10).1.rows).length) c174, .int .i64 ((readT l10).1.mode)]) (i := 0) (cs' := #[.slice A173 (((readT l10).1.rows).length) c174, .int .i64 ((readT l10).1.mode)]) hb183 (k := fun w187 hb188 k189 => ?_)
    replace hb4 := k189.heap hb4 n186
    replace ho175 := ho175.keeps k189 (fun i hi e => (ho175.offT hb183 (by decide)) (e ▸ hi))
    replace K := K.trans' k189 (fun i hi e => absurd (e ▸ hi) (Nat.not_lt.2 z185))
    clear hb183
    refine WL.op (d := 13) (.int .i64 ((readT l10).2)) (k := ?_)
    refine WL.nil ?_
    refine WX.seqN ?_
    refine WC.seq ?_
    refine WC.region ?_
    refine WL.op (d := 72) (.string ⟨(l10).toArray⟩) (k := ?_)
    refine WL.callG (d := 73) (f := 26) (args := #[.string ⟨(l10).toArray⟩]) (u14Read_c l10 (by show List.length l10 ≤ _; first | omega | (simp; omega)) w187) (k := fun e_ w190 h_ => ?_)
    obtain ⟨A191, c192, rfl, ho193, k194, ol195⟩ := h_
    refine ⟨_, rfl, ?_⟩
    have ol196 := fun i h => Nat.le_trans K.size (ol195 i h)
    replace hb4 := k194.heap hb4 id
    replace ho175 := ho175.adds k194
    replace hb188 := k194.heap hb188 id
    replace K := K.trans (k194.any _)
    clear ol195
    have rl197 := readT_len l10
    refine WL.op (d := 71) (.tuple #[.agg #[.slice A191 (((readT l10).1.rows).length) c192, .int .i64 ((readT l10).1.mode)], .int .i64 ((readT l10).2)]) (k := ?_)
    refine WL.op (d := 74) (.agg #[.slice A191 (((readT l10).1.rows).length) c192, .int .i64 ((readT l10).1.mode)]) (k := ?_)
    refine WL.op (d := 75) (.int .i64 ((readT l10).2)) (k := ?_)
    refine WL.new (d := 14) (T := 24) #[.slice none 0 0, .int .i64 0] (k := fun b198 w199 g200 hb201 k202 => ?_)
    have z203 := Nat.le_trans K.size g200
    have n204 : b1 ≠ b198 := Nat.ne_of_lt (Nat.lt_of_lt_of_le (lt_of_heap hb4) g200)
    have n205 : b180 ≠ b198 := Nat.ne_of_lt (Nat.lt_of_lt_of_le (lt_of_heap hb188) g200)
    replace hb4 := k202.heap hb4 id
    replace ho175 := ho175.adds k202
    replace hb188 := k202.heap hb188 id
    replace ho193 := ho193.adds k202
    replace K := K.trans (k202.any _)
    refine WL.store (v := .agg #[.slice A191 (((readT l10).1.rows).length) c192, .int .i64 ((readT l10).1.mode)]) (i := 0) (cs' := #[.slice A191 (((readT l10).1.rows).length) c192, .int .i64 ((readT l10).1.mode)]) hb201 (k := fun w206 hb207 k208 => ?_)
    replace hb4 := k208.heap hb4 n204
    replace ho175 := ho175.keeps k208 (fun i hi e => (ho175.offT hb201 (by decide)) (e ▸ hi))
    replace hb188 := k208.heap hb188 n205
    replace ho193 := ho193.keeps k208 (fun i hi e => (ho193.offT hb201 (by decide)) (e ▸ hi))
    replace K := K.trans' k208 (fun i hi e => absurd (e ▸ hi) (Nat.not_lt.2 z203))
    clear hb201
    refine WL.op (d := 15) (.int .i64 ((readT l10).2)) (k := ?_)
    refine WL.nil ?_
    refine WX.seqN ?_
    refine WC.seq ?_
    refine WC.region ?_
    refine WL.load (v := .agg #[.slice A173 (((readT l10).1.rows).length) c174, .int .i64 ((readT l10).1.mode)]) (ldN (T := 24) (i := 0) (m := 2) (l := [.slice A173 (((readT l10).1.rows).length) c174, .int .i64 ((readT l10).1.mode)]) hb188) (k := ?_)
    refine WL.load (v := .agg #[.slice A191 (((readT l10).1.rows).length) c192, .int .i64 ((readT l10).1.mode)]) (ldN (T := 24) (i := 0) (m := 2) (l := [.slice A191 (((readT l10).1.rows).length) c192, .int .i64 ((readT l10).1.mode)]) hb207) (k := ?_)
    refine WL.callG (d := 78) (f := 22) (args := #[.agg #[.slice A173 (((readT l10).1.rows).length) c174, .int .i64 ((readT l10).1.mode)], .agg #[.slice A191 (((readT l10).1.rows).length) c192, .int .i64 ((readT l10).1.mode)]]) (u14Same_r (cp := c174) (cq := c192) (ma := (readT l10).1.mode) (ho175.sl ekRow) (ho193.sl ekRow) (by first | omega | (simp; omega))) (k := fun e_ w209 h_ => ⟨.bool true, h_.1, ?_⟩)
    have k210 := h_.2; clear h_
    replace hb4 := k210.heap hb4 id
    replace ho175 := ho175.adds k210
    replace hb188 := k210.heap hb188 id
    replace ho193 := ho193.adds k210
    replace hb207 := k210.heap hb207 id
    replace K := K.trans (k210.any _)
    refine WL.op (d := 16) (.bool true) (k := ?_)
    refine WL.nil ?_
    refine WX.seqN ?_
    refine WC.seq ?_
    refine WC.region ?_
    refine WL.op (d := 79) (.bool true) (k := ?_)
    refine WL.op (d := 80) (.bool true) (k := ?_)
    refine WL.op (d := 81) (.bool true) (k := ?_)
    refine WL.op (d := 82) (.bool true) (k := ?_)
    refine WL.op (d := 83) (.bool true) (k := ?_)
    refine WL.op (d := 84) (.int .i64 ((readT l10).2)) (k := ?_)
    refine WL.op (d := 85) (.int .i64 ((readT l10).2)) (k := ?_)
    refine WL.opE (d := 86) (.bool (((readT l10).2) == ((readT l10).2))) (v := .bool true) (congrArg Value.bool (beq_self_eq_true _)) (k := ?_)
    refine WL.op (d := 87) (.bool true) (k := ?_)
    refine WL.op (d := 6) (.bool true) (k := ?_)
    refine WL.nil ?_
    refine WX.seqN ?_
    refine WC.ret ?_
    refine WX.ret (rs := [.tmp 6]) [.bool true] (.bool true) ⟨(by kernel_rfl), trivial⟩ (k := ?_)
    exact ⟨rfl, K⟩

end Go.Proofs.Ytpkcohhfkeinmaa
