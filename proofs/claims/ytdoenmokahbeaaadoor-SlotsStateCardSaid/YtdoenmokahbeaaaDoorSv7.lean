/- Slots: the laws. -/
import Derived.Test.YtdoenmokahbeaaaDoorSvB
namespace Go.Proofs.YtdoenmokahbeaaaDoor
open Go.RowKit
set_option linter.unusedVariables false
set_option linter.unusedSimpArgs false

set_option maxRecDepth 100000 in
theorem l06short_c (l : List UInt8) (n : Nat) (hn : n ≤ 1000000) (hl : l.length ≤ 9223372036854775807) (w : World) : Calls Tryd.prog 41 #[.string ⟨l.toArray⟩, .int .i64 (n : Int)] w fun e w' => e = .returned (.string ⟨(List.take n l).toArray⟩) ∧ Adds w w' := by
  have K : Keeps (fun _ => False) w w := Keeps.refl _ w
  refine Calls.start Tryd.func41 rfl (by kernel_rfl) ?_
  refine WC.seq ?_
  refine WC.region ?_
  refine WL.op (d := 4) (.string ⟨#[]⟩) (k := ?_)
  refine WL.nil ?_
  refine WX.seqN ?_
  refine WC.seq ?_
  refine WC.seq ?_
  refine WC.region ?_
  refine WL.op (d := 5) (.string ⟨(l).toArray⟩) (k := ?_)
  refine WL.op (d := 6) (.int .i64 (l.length : Int)) (k := ?_)
  refine WL.op (d := 7) (.int .i64 (n : Int)) (k := ?_)
  refine WL.op (d := 8) (.bool (decide ((l.length : Int) > (n : Int)))) (k := ?_)
  refine WL.nil ?_
  refine WX.seqN ?_
  refine WC.cond (b := decide ((l.length : Int) > (n : Int))) (ht := fun h1 => ?_) (hf := fun h1 => ?_)
  · have ph1 := of_decide_eq_true h1
    refine WC.seq ?_
    refine WC.region ?_
    refine WL.op (d := 9) (.string ⟨(l).toArray⟩) (k := ?_)
    refine WL.op (d := 10) (.int .i64 (n : Int)) (k := ?_)
    refine WL.cut (d := 11) (vx := .string ⟨(l).toArray⟩) (lo' := none) (hi' := (some (.int .i64 (n : Int)))) (mx' := none) (v := .string ⟨(List.take n l).toArray⟩) (run_cut (P := Tryd.prog) (w := w) (lo := none) (hi := (some (.int .i64 (n : Int)))) (T := 9) (a := 0) (b := n) (l := l) (by kernel_rfl) (.inl ⟨rfl, rfl⟩) (.inr ⟨_, _, rfl, by omega⟩) (by first | omega | (simp; omega)) (by first | omega | (simp; omega))) (k := ?_)
    refine WL.op (d := 4) (.string ⟨(List.take n l).toArray⟩) (k := ?_)
    refine WL.nil ?_
    refine WX.seqN ?_
    refine WC.ret ?_
    refine WX.seqR ?_
    refine WX.ret (rs := [.tmp 4]) [.string ⟨(List.take n l).toArray⟩] (.string ⟨(List.take n l).toArray⟩) ⟨(by kernel_rfl), trivial⟩ (k := ?_)
    exact ⟨rfl, K⟩
  · have ph1 := of_decide_eq_false h1
    refine WC.skip ?_
    refine WX.seqN ?_
    refine WC.seq ?_
    refine WC.region ?_
    refine WL.op (d := 12) (.string ⟨(l).toArray⟩) (k := ?_)
    refine WL.op (d := 4) (.string ⟨(l).toArray⟩) (k := ?_)
    refine WL.nil ?_
    refine WX.seqN ?_
    refine WC.ret ?_
    refine WX.ret (rs := [.tmp 4]) [.string ⟨(l).toArray⟩] (.string ⟨(l).toArray⟩) ⟨(by kernel_rfl), trivial⟩ (k := ?_)
    exact ⟨by rw [List.take_of_length_le (by omega)], K⟩

set_option maxRecDepth 100000 in
set_option maxHeartbeats 4000000 in
theorem l06awake_c (w : World) : Calls Tryd.prog 36 #[] w fun e w' => e = .returned (.bool true) ∧ Adds w w' := by
  have K : Keeps (fun _ => False) w w := Keeps.refl _ w
  refine Calls.start Tryd.func36 rfl (by kernel_rfl) ?_
  refine WC.seq ?_
  refine WC.region ?_
  refine WL.op (d := 0) (.bool false) (k := ?_)
  refine WL.nil ?_
  refine WX.seqN ?_
  refine WC.seq ?_
  refine WC.region ?_
  refine WL.callG (d := 10) (f := 28) (args := #[.int .i64 4]) (dNew_ok (n := 4) (by omega) (by omega) w) (k := fun e_ w1 h_ => ?_)
  obtain ⟨b2, S3, rfl, g4, hd5, ho6, k7⟩ := h_
  refine ⟨_, rfl, ?_⟩
  have lk8 : ∀ k, S3 k → False ∨ w.heap.size ≤ k := fun k h => .inr (Nat.le_trans K.size (ho6 k h))
  have z9 := Nat.le_trans K.size g4
  replace K := K.trans (k7.any _)
  change DiskAt S3 b2 (⟨duo 0 [] 0 [], [], 0, 0⟩ : GDisk) w1 at hd5
  have ln10 : (GDisk.secs (⟨duo 0 [] 0 [], [], 0, 0⟩ : GDisk)).length = 4 := rfl
  refine WL.callG (d := 11) (f := 37) (args := #[.pointer (some ⟨b2, 0, none⟩), .int .i64 0, .int .i64 2]) (svNew_ok (at_ := 0) (k := 2) hd5 (by omega) (by omega) ⟨by decide, by decide, by decide, by show (0 : Int) ≤ ((duo 0 [] 0 []).length : Int) - 2 * 2; rw [duo_len]; decide⟩) (k := fun e_ w11 h_ => ?_)
  obtain ⟨b12, rfl, g13, hb14, k15⟩ := h_
  refine ⟨_, rfl, ?_⟩
  have z16 := Nat.le_trans K.size g13
  have n17 : ¬ S3 b12 := fun h => absurd (hd5.lt _ h) (Nat.not_lt.2 g13)
  replace hd5 := hd5.adds k15
  replace K := K.trans (k15.any _)
  refine WL.op (d := 1) (.pointer (some ⟨b12, 0, none⟩)) (k := ?_)
  refine WL.nil ?_
  refine WX.seqN ?_
  refine WC.seq ?_
  refine WC.seq ?_
  refine WC.region ?_
  refine WL.op (d := 12) (.pointer (some ⟨b12, 0, none⟩)) (k := ?_)
  refine WL.op (d := 13) (.bool false) (k := ?_)
  refine WL.nil ?_
  refine WX.seqN ?_
  refine WC.condF (k := ?_)
  refine WC.skip ?_
  refine WX.seqN ?_
  refine WC.seq ?_
  refine WC.region ?_
  refine WL.op (d := 15) (.pointer (some ⟨b12, 0, none⟩)) (k := ?_)
  refine WL.callG (d := 16) (f := 39) (args := #[.pointer (some ⟨b12, 0, none⟩)]) (svRead_none hb14 hd5 n17) (k := fun e_ w18 h_ => ?_)
  obtain ⟨rd19, rfl, hb20, hd21, k22⟩ := h_
  refine ⟨_, rfl, ?_⟩
  replace K := K.trans' k22 (fun i hi e => e.elim (fun e => absurd (e ▸ hi) (Nat.not_lt.2 z16)) (fun e => (lk8 i e).elim (fun h => h.elim) (fun h => absurd hi (Nat.not_lt.2 h))))
  clear hb14 hd5
  refine WL.op (d := 14) (.tuple #[.agg #[.int .u64 0, .string ⟨#[]⟩], .bool false, .int .i64 0]) (k := ?_)
  refine WL.op (d := 17) (.agg #[.int .u64 0, .string ⟨#[]⟩]) (k := ?_)
  refine WL.op (d := 18) (.bool false) (k := ?_)
  refine WL.op (d := 19) (.int .i64 0) (k := ?_)
  refine WL.new (d := 2) (T := 64) #[.int .u64 0, .string ⟨#[]⟩] (k := fun b23 w24 g25 hb26 k27 => ?_)
  have z28 := Nat.le_trans K.size g25
  have n29 : ¬ S3 b23 := fun h => absurd (hd21.lt _ h) (Nat.not_lt.2 g25)
  have n30 : b12 ≠ b23 := Nat.ne_of_lt (Nat.lt_of_lt_of_le (lt_of_heap hb20) g25)
  replace hd21 := hd21.adds k27
  replace hb20 := k27.heap hb20 id
  replace K := K.trans (k27.any _)
  refine WL.store (v := .agg #[.int .u64 0, .string ⟨#[]⟩]) (i := 0) (cs' := #[.int .u64 0, .string ⟨#[]⟩]) hb26 (k := fun w31 hb32 k33 => ?_)
  replace hd21 := hd21.keeps k33 (fun i hi e => n29 (e ▸ hi))
  replace hb20 := k33.heap hb20 n30
  replace K := K.trans' k33 (fun i hi e => absurd (e ▸ hi) (Nat.not_lt.2 z28))
  clear hb26
  refine WL.op (d := 3) (.bool false) (k := ?_)
  refine WL.op (d := 4) (.int .i64 0) (k := ?_)
  refine WL.nil ?_
  refine WX.seqN ?_
  refine WC.seq ?_
  refine WC.region ?_
  refine WL.op (d := 21) (.pointer (some ⟨b12, 0, none⟩)) (k := ?_)
  refine WL.callG (d := 22) (f := 38) (args := #[.pointer (some ⟨b12, 0, none⟩), .string ⟨#[97]⟩]) (svWrite_first (l := [97]) (nw := 0) (la := -1) hb20 hd21 n17 (by show List.length [97] ≤ 86; first | omega | (simp; done) | (simp; omega)) (by omega) (by decide)) (k := fun e_ w34 h_ => ?_)
  obtain ⟨S35, rfl, hb36, hd37, lk38, n39, k40⟩ := h_
  refine ⟨_, rfl, ?_⟩
  have n41 : ¬ S35 b23 := fun h => (lk38 _ h).elim n29 (fun h2 => absurd (lt_of_heap hb32) (Nat.not_lt.2 h2))
  have lk42 := lk_step lk8 lk38 K
  replace K := K.trans' k40 (fun i hi e => e.elim (fun e => absurd (e ▸ hi) (Nat.not_lt.2 z16)) (fun e => (lk8 i e).elim (fun h => h.elim) (fun h => absurd hi (Nat.not_lt.2 h))))
  replace hb32 := k40.heap hb32 (not_or.2 ⟨Ne.symm n30, n29⟩)
  clear hb20 hd21
  have ll_ : List.length [97] ≤ 86 := (by show List.length [97] ≤ 86; first | omega | (simp; done) | (simp; omega))
  have ok43 : SlOk 2 (0 + 1) [97] := ⟨by omega, fun h => absurd h (by omega), by omega⟩
  refine WL.op (d := 20) (.tuple #[.int .u64 ((0 + 1 : Nat) : Int), .int .i64 0]) (k := ?_)
  refine WL.op (d := 23) (.int .u64 ((0 + 1 : Nat) : Int)) (k := ?_)
  refine WL.op (d := 24) (.int .i64 0) (k := ?_)
  refine WL.op (d := 5) (.int .u64 ((0 + 1 : Nat) : Int)) (k := ?_)
  refine WL.op (d := 6) (.int .i64 0) (k := ?_)
  refine WL.nil ?_
  refine WX.seqN ?_
  refine WC.seq ?_
  refine WC.region ?_
  refine WL.op (d := 26) (.pointer (some ⟨b12, 0, none⟩)) (k := ?_)
  refine WL.callG (d := 27) (f := 39) (args := #[.pointer (some ⟨b12, 0, none⟩)]) (svRead_first hb36 hd37 n39 ok43 slOk_zero (by omega)) (k := fun e_ w44 h_ => ?_)
  obtain ⟨rd45, rfl, hb46, hd47, k48⟩ := h_
  refine ⟨_, rfl, ?_⟩
  replace K := K.trans' k48 (fun i hi e => e.elim (fun e => absurd (e ▸ hi) (Nat.not_lt.2 z16)) (fun e => (lk42 i e).elim (fun h => h.elim) (fun h => absurd hi (Nat.not_lt.2 h))))
  replace hb32 := k48.heap hb32 (not_or.2 ⟨Ne.symm n30, n41⟩)
  clear hb36 hd37
  have h49 : decide (¬ (0 + 1) = 0) = true := decide_eq_true (by omega)
  have ph49 := of_decide_eq_true h49
  refine WL.op (d := 25) (.tuple #[.agg #[.int .u64 ((0 + 1 : Nat) : Int), .string ⟨#[97]⟩], .bool (decide (¬ (0 + 1) = 0)), .int .i64 0]) (k := ?_)
  refine WL.op (d := 28) (.agg #[.int .u64 ((0 + 1 : Nat) : Int), .string ⟨#[97]⟩]) (k := ?_)
  refine WL.op (d := 29) (.bool (decide (¬ (0 + 1) = 0))) (k := ?_)
  refine WL.op (d := 30) (.int .i64 0) (k := ?_)
  refine WL.new (d := 7) (T := 64) #[.int .u64 0, .string ⟨#[]⟩] (k := fun b50 w51 g52 hb53 k54 => ?_)
  have z55 := Nat.le_trans K.size g52
  have n56 : ¬ S35 b50 := fun h => absurd (hd47.lt _ h) (Nat.not_lt.2 g52)
  have n57 : b12 ≠ b50 := Nat.ne_of_lt (Nat.lt_of_lt_of_le (lt_of_heap hb46) g52)
  have n58 : b23 ≠ b50 := Nat.ne_of_lt (Nat.lt_of_lt_of_le (lt_of_heap hb32) g52)
  replace hd47 := hd47.adds k54
  replace hb46 := k54.heap hb46 id
  replace hb32 := k54.heap hb32 id
  replace K := K.trans (k54.any _)
  refine WL.store (v := .agg #[.int .u64 ((0 + 1 : Nat) : Int), .string ⟨#[97]⟩]) (i := 0) (cs' := #[.int .u64 ((0 + 1 : Nat) : Int), .string ⟨#[97]⟩]) hb53 (k := fun w59 hb60 k61 => ?_)
  replace hd47 := hd47.keeps k61 (fun i hi e => n56 (e ▸ hi))
  replace hb46 := k61.heap hb46 n57
  replace hb32 := k61.heap hb32 n58
  replace K := K.trans' k61 (fun i hi e => absurd (e ▸ hi) (Nat.not_lt.2 z55))
  clear hb53
  refine WL.op (d := 8) (.bool (decide (¬ (0 + 1) = 0))) (k := ?_)
  refine WL.op (d := 9) (.int .i64 0) (k := ?_)
  refine WL.nil ?_
  refine WX.seqN ?_
  refine WC.seq ?_
  refine WC.region ?_
  refine WL.op (d := 31) (.bool false) (k := ?_)
  refine WL.op (d := 32) (.bool true) (k := ?_)
  refine WL.op (d := 33) (.bool true) (k := ?_)
  refine WL.op (d := 34) (.int .i64 0) (k := ?_)
  refine WL.op (d := 35) (.bool true) (k := ?_)
  refine WL.op (d := 36) (.bool true) (k := ?_)
  refine WL.op (d := 37) (.bool true) (k := ?_)
  refine WL.op (d := 38) (.int .u64 ((0 + 1 : Nat) : Int)) (k := ?_)
  refine WL.op (d := 39) (.bool (((0 + 1 : Nat) : Int) == 1)) (k := ?_)
  refine WL.op (d := 40) (.bool (((0 + 1 : Nat) : Int) == 1)) (k := ?_)
  refine WL.op (d := 41) (.bool (((0 + 1 : Nat) : Int) == 1)) (k := ?_)
  refine bsplit (((0 + 1 : Nat) : Int) == 1) (fun h62 => ?_) (fun h62 => ?_)
  · have ph62 := eq_of_beq h62
    refine WL.rw (t := 41) (v := .bool true) (congrArg Value.bool h62) (k := ?_)
    refine WL.op (d := 42) (.int .i64 0) (k := ?_)
    refine WL.op (d := 43) (.bool true) (k := ?_)
    refine WL.op (d := 44) (.bool true) (k := ?_)
    refine WL.op (d := 45) (.bool true) (k := ?_)
    refine WL.op (d := 46) (.bool (decide (¬ (0 + 1) = 0))) (k := ?_)
    refine WL.op (d := 47) (.bool (decide (¬ (0 + 1) = 0))) (k := ?_)
    refine WL.op (d := 48) (.bool (decide (¬ (0 + 1) = 0))) (k := ?_)
    refine WL.rw (t := 48) (v := .bool true) (congrArg Value.bool h49) (k := ?_)
    refine WL.op (d := 49) (.int .i64 0) (k := ?_)
    refine WL.op (d := 50) (.bool true) (k := ?_)
    refine WL.op (d := 51) (.bool true) (k := ?_)
    refine WL.op (d := 52) (.bool true) (k := ?_)
    refine WL.op (d := 53) (.pointer (some ⟨b50, 0, none⟩)) (k := ?_)
    refine WL.load (v := .int .u64 ((0 + 1 : Nat) : Int)) (ld1 (T := 22) (i := 0) hb60) (k := ?_)
    refine WL.op (d := 55) (.bool (((0 + 1 : Nat) : Int) == 1)) (k := ?_)
    refine WL.op (d := 56) (.bool (((0 + 1 : Nat) : Int) == 1)) (k := ?_)
    refine WL.op (d := 57) (.bool (((0 + 1 : Nat) : Int) == 1)) (k := ?_)
    refine WL.rw (t := 57) (v := .bool true) (congrArg Value.bool h62) (k := ?_)
    refine WL.op (d := 58) (.pointer (some ⟨b50, 1, none⟩)) (k := ?_)
    refine WL.load (v := .string ⟨#[97]⟩) (ld1 (T := 9) (i := 1) hb60) (k := ?_)
    refine WL.op (d := 60) (.bool true) (k := ?_)
    refine WL.op (d := 61) (.bool true) (k := ?_)
    refine WL.op (d := 0) (.bool true) (k := ?_)
    refine WL.nil ?_
    refine WX.seqN ?_
    refine WC.ret ?_
    refine WX.ret (rs := [.tmp 0]) [.bool true] (.bool true) ⟨(by kernel_rfl), trivial⟩ (k := ?_)
    exact ⟨rfl, K⟩
  · have ph62 := ne_of_beq_false h62
    refine WL.rw (t := 41) (v := .bool false) (congrArg Value.bool h62) (k := ?_)
    refine WL.skip (d := 42) (k := ?_)
    refine WL.skip (d := 43) (k := ?_)
    refine WL.op (d := 44) (.bool false) (k := ?_)
    refine WL.op (d := 45) (.bool false) (k := ?_)
    refine WL.skip (d := 46) (k := ?_)
    refine WL.op (d := 47) (.bool false) (k := ?_)
    refine WL.op (d := 48) (.bool false) (k := ?_)
    refine WL.skip (d := 49) (k := ?_)
    refine WL.skip (d := 50) (k := ?_)
    refine WL.op (d := 51) (.bool false) (k := ?_)
    refine WL.op (d := 52) (.bool false) (k := ?_)
    refine WL.skip (d := 53) (k := ?_)
    refine WL.skip (d := 54) (k := ?_)
    refine WL.skip (d := 55) (k := ?_)
    refine WL.op (d := 56) (.bool false) (k := ?_)
    refine WL.op (d := 57) (.bool false) (k := ?_)
    refine WL.skip (d := 58) (k := ?_)
    refine WL.skip (d := 59) (k := ?_)
    refine WL.skip (d := 60) (k := ?_)
    refine WL.op (d := 61) (.bool false) (k := ?_)
    refine WL.op (d := 0) (.bool false) (k := ?_)
    refine WL.nil ?_
    refine WX.seqN ?_
    refine WC.ret ?_
    refine WX.ret (rs := [.tmp 0]) [.bool false] (.bool false) ⟨(by kernel_rfl), trivial⟩ (k := ?_)
    exfalso; omega

set_option maxRecDepth 100000 in
set_option maxHeartbeats 4000000 in
theorem lSlotsNil_c (x at_ k : Int) (z0 : (-9223372036854775808 ≤ at_ ∧ at_ ≤ 9223372036854775807)) (z1 : (-9223372036854775808 ≤ k ∧ k ≤ 9223372036854775807)) (w : World) : Calls Tryd.prog 13 #[.int .i64 x, .int .i64 at_, .int .i64 k] w fun e w' => e = .returned (.bool true) ∧ Adds w w' := by
  have K : Keeps (fun _ => False) w w := Keeps.refl _ w
  refine Calls.start Tryd.func13 rfl (by kernel_rfl) ?_
  refine WC.seq ?_
  refine WC.region ?_
  refine WL.op (d := 6) (.bool false) (k := ?_)
  refine WL.nil ?_
  refine WX.seqN ?_
  refine WC.seq ?_
  refine WC.region ?_
  refine WL.op (d := 16) (.int .i64 x) (k := ?_)
  refine WL.bin (d := 17) (v := .int .i64 (Int.tmod x 20)) (rem_run (by omega)) (k := ?_)
  have m1 := tmod_rng x 20 (by omega)
  obtain ⟨r2, e3⟩ : ∃ r : Int, Int.tmod x 20 = r := ⟨_, rfl⟩
  rw [e3] at m1
  refine WL.rw (t := 17) (v := .int .i64 r2) (congrArg (Value.int .i64) e3) (k := ?_)
  refine WL.opE (d := 18) (.int .i64 (IntKind.i64.wrap (r2 + 20))) (v := .int .i64 (r2 + 20)) (congrArg (Value.int .i64) (IntWalk.i64_in _ (by omega))) (k := ?_)
  refine WL.bin (d := 19) (v := .int .i64 (Int.tmod (r2 + 20) 20)) (rem_run (by omega)) (k := ?_)
  have m4 := tmod_rng (r2 + 20) 20 (by omega)
  obtain ⟨r5, e6⟩ : ∃ r : Int, Int.tmod (r2 + 20) 20 = r := ⟨_, rfl⟩
  rw [e6] at m4
  refine WL.rw (t := 19) (v := .int .i64 r5) (congrArg (Value.int .i64) e6) (k := ?_)
  refine WL.opE (d := 20) (.int .i64 (IntKind.i64.wrap (1 + r5))) (v := .int .i64 (1 + r5)) (congrArg (Value.int .i64) (IntWalk.i64_in _ (by omega))) (k := ?_)
  refine WL.op (d := 7) (.int .i64 (1 + r5)) (k := ?_)
  refine WL.nil ?_
  refine WX.seqN ?_
  refine WC.seq ?_
  obtain ⟨m, hm⟩ : ∃ q : Nat, 1 + r5 = (q : Int) := ⟨Int.toNat (1 + r5), by omega⟩
  refine WC.rw (t := 7) (v := .int .i64 (m : Int)) (congrArg (Value.int .i64) hm) (k := ?_)
  refine WC.region ?_
  refine WL.op (d := 21) (.int .i64 (m : Int)) (k := ?_)
  refine WL.callG (d := 22) (f := 28) (args := #[.int .i64 (m : Int)]) (dNew_ok (n := m) (by omega) (by omega) w) (k := fun e_ w7 h_ => ?_)
  obtain ⟨b8, S9, rfl, g10, hd11, ho12, k13⟩ := h_
  refine ⟨_, rfl, ?_⟩
  have lk14 : ∀ k, S9 k → False ∨ w.heap.size ≤ k := fun k h => .inr (Nat.le_trans K.size (ho12 k h))
  have z15 := Nat.le_trans K.size g10
  replace K := K.trans (k13.any _)
  change DiskAt S9 b8 (⟨List.replicate m (List.replicate 64 (0 : UInt8)), [], 0, 0⟩ : GDisk) w7 at hd11
  have ln16 : (GDisk.secs (⟨List.replicate m (List.replicate 64 (0 : UInt8)), [], 0, 0⟩ : GDisk)).length = m := List.length_replicate
  refine WL.op (d := 23) (.int .i64 at_) (k := ?_)
  refine WL.op (d := 24) (.int .i64 k) (k := ?_)
  refine bsplit (decide (0 ≤ at_ ∧ 1 ≤ k ∧ k ≤ 64 ∧ at_ ≤ ((GDisk.secs (⟨List.replicate m (List.replicate 64 (0 : UInt8)), [], 0, 0⟩ : GDisk)).length : Int) - 2 * k)) (fun h17 => ?_) (fun h17 => ?_)
  · have ph17 := of_decide_eq_true h17
    refine WL.callG (d := 25) (f := 37) (args := #[.pointer (some ⟨b8, 0, none⟩), .int .i64 at_, .int .i64 k]) (svNew_ok (at_ := at_) (k := k) hd11 (by omega) (by omega) ph17) (k := fun e_ w18 h_ => ?_)
    obtain ⟨b19, rfl, g20, hb21, k22⟩ := h_
    refine ⟨_, rfl, ?_⟩
    have z23 := Nat.le_trans K.size g20
    have n24 : ¬ S9 b19 := fun h => absurd (hd11.lt _ h) (Nat.not_lt.2 g20)
    replace hd11 := hd11.adds k22
    replace K := K.trans (k22.any _)
    refine WL.op (d := 8) (.pointer (some ⟨b19, 0, none⟩)) (k := ?_)
    refine WL.nil ?_
    refine WX.seqN ?_
    refine WC.seq ?_
    refine WC.region ?_
    refine WL.op (d := 9) (.pointer none) (k := ?_)
    refine WL.nil ?_
    refine WX.seqN ?_
    refine WC.seq ?_
    refine WC.region ?_
    refine WL.op (d := 27) (.pointer none) (k := ?_)
    refine WL.callG (d := 28) (f := 39) (args := #[.pointer none]) (svRead_nil w18) (k := fun e_ w25 h_ => ⟨.tuple #[.agg #[.int .u64 0, .string ⟨#[]⟩], .bool false, .int .i64 1], h_.1, ?_⟩)
    have k26 := h_.2; clear h_
    replace hd11 := hd11.adds k26
    replace hb21 := k26.heap hb21 id
    replace K := K.trans (k26.any _)
    refine WL.op (d := 26) (.tuple #[.agg #[.int .u64 0, .string ⟨#[]⟩], .bool false, .int .i64 1]) (k := ?_)
    refine WL.op (d := 29) (.agg #[.int .u64 0, .string ⟨#[]⟩]) (k := ?_)
    refine WL.op (d := 30) (.bool false) (k := ?_)
    refine WL.op (d := 31) (.int .i64 1) (k := ?_)
    refine WL.new (d := 10) (T := 64) #[.int .u64 0, .string ⟨#[]⟩] (k := fun b27 w28 g29 hb30 k31 => ?_)
    have z32 := Nat.le_trans K.size g29
    have n33 : ¬ S9 b27 := fun h => absurd (hd11.lt _ h) (Nat.not_lt.2 g29)
    have n34 : b19 ≠ b27 := Nat.ne_of_lt (Nat.lt_of_lt_of_le (lt_of_heap hb21) g29)
    replace hd11 := hd11.adds k31
    replace hb21 := k31.heap hb21 id
    replace K := K.trans (k31.any _)
    refine WL.store (v := .agg #[.int .u64 0, .string ⟨#[]⟩]) (i := 0) (cs' := #[.int .u64 0, .string ⟨#[]⟩]) hb30 (k := fun w35 hb36 k37 => ?_)
    replace hd11 := hd11.keeps k37 (fun i hi e => n33 (e ▸ hi))
    replace hb21 := k37.heap hb21 n34
    replace K := K.trans' k37 (fun i hi e => absurd (e ▸ hi) (Nat.not_lt.2 z32))
    clear hb30
    refine WL.op (d := 11) (.bool false) (k := ?_)
    refine WL.op (d := 12) (.int .i64 1) (k := ?_)
    refine WL.nil ?_
    refine WX.seqN ?_
    refine WC.seq ?_
    refine WC.region ?_
    refine WL.op (d := 33) (.pointer none) (k := ?_)
    refine WL.callG (d := 34) (f := 38) (args := #[.pointer none, .string ⟨#[]⟩]) (svWrite_nil (l := []) w35) (k := fun e_ w38 h_ => ⟨.tuple #[.int .u64 0, .int .i64 1], h_.1, ?_⟩)
    have k39 := h_.2; clear h_
    replace hd11 := hd11.adds k39
    replace hb21 := k39.heap hb21 id
    replace hb36 := k39.heap hb36 id
    replace K := K.trans (k39.any _)
    refine WL.op (d := 32) (.tuple #[.int .u64 0, .int .i64 1]) (k := ?_)
    refine WL.op (d := 35) (.int .u64 0) (k := ?_)
    refine WL.op (d := 36) (.int .i64 1) (k := ?_)
    refine WL.op (d := 13) (.int .u64 0) (k := ?_)
    refine WL.op (d := 14) (.int .i64 1) (k := ?_)
    refine WL.nil ?_
    refine WX.seqN ?_
    refine WC.seq ?_
    refine WC.region ?_
    refine WL.op (d := 37) (.int .i64 at_) (k := ?_)
    refine WL.op (d := 38) (.bool (decide (at_ ≥ 0))) (k := ?_)
    refine WL.op (d := 39) (.bool (decide (at_ ≥ 0))) (k := ?_)
    refine bsplit (decide (at_ ≥ 0)) (fun h40 => ?_) (fun h40 => ?_)
    · have ph40 := of_decide_eq_true h40
      refine WL.rw (t := 39) (v := .bool true) (congrArg Value.bool h40) (k := ?_)
      refine WL.op (d := 40) (.int .i64 k) (k := ?_)
      refine WL.op (d := 41) (.bool (decide (k ≥ 1))) (k := ?_)
      refine WL.op (d := 42) (.bool (decide (k ≥ 1))) (k := ?_)
      refine WL.op (d := 43) (.bool (decide (k ≥ 1))) (k := ?_)
      refine bsplit (decide (k ≥ 1)) (fun h41 => ?_) (fun h41 => ?_)
      · have ph41 := of_decide_eq_true h41
        refine WL.rw (t := 43) (v := .bool true) (congrArg Value.bool h41) (k := ?_)
        refine WL.op (d := 44) (.int .i64 k) (k := ?_)
        refine WL.op (d := 45) (.bool (decide (k ≤ 64))) (k := ?_)
        refine WL.op (d := 46) (.bool (decide (k ≤ 64))) (k := ?_)
        refine WL.op (d := 47) (.bool (decide (k ≤ 64))) (k := ?_)
        refine bsplit (decide (k ≤ 64)) (fun h42 => ?_) (fun h42 => ?_)
        · have ph42 := of_decide_eq_true h42
          refine WL.rw (t := 47) (v := .bool true) (congrArg Value.bool h42) (k := ?_)
          refine WL.op (d := 48) (.int .i64 at_) (k := ?_)
          refine WL.op (d := 49) (.int .i64 (m : Int)) (k := ?_)
          refine WL.op (d := 50) (.int .i64 k) (k := ?_)
          refine WL.opE (d := 51) (.int .i64 (IntKind.i64.wrap (2 * k))) (v := .int .i64 (2 * k)) (congrArg (Value.int .i64) (IntWalk.i64_in _ (by omega))) (k := ?_)
          refine WL.opE (d := 52) (.int .i64 (IntKind.i64.wrap ((m : Int) - (2 * k)))) (v := .int .i64 ((m : Int) - (2 * k))) (congrArg (Value.int .i64) (IntWalk.i64_in _ (by omega))) (k := ?_)
          refine WL.op (d := 53) (.bool (decide (at_ ≤ ((m : Int) - (2 * k))))) (k := ?_)
          refine WL.op (d := 54) (.bool (decide (at_ ≤ ((m : Int) - (2 * k))))) (k := ?_)
          refine WL.op (d := 15) (.bool (decide (at_ ≤ ((m : Int) - (2 * k))))) (k := ?_)
          refine WL.nil ?_
          refine WX.seqN ?_
          refine WC.seq ?_
          refine WC.region ?_
          refine WL.callG (d := 55) (f := 36) (args := #[]) (l06awake_c w38) (k := fun e_ w43 h_ => ⟨.bool true, h_.1, ?_⟩)
          have k44 := h_.2; clear h_
          replace hd11 := hd11.adds k44
          replace hb21 := k44.heap hb21 id
          replace hb36 := k44.heap hb36 id
          replace K := K.trans (k44.any _)
          refine WL.op (d := 56) (.bool true) (k := ?_)
          refine WL.op (d := 57) (.pointer (some ⟨b19, 0, none⟩)) (k := ?_)
          refine WL.op (d := 58) (.bool true) (k := ?_)
          refine WL.op (d := 59) (.bool (decide (at_ ≤ ((m : Int) - (2 * k))))) (k := ?_)
          refine WL.op (d := 60) (.bool (true == (decide (at_ ≤ ((m : Int) - (2 * k)))))) (k := ?_)
          refine WL.op (d := 61) (.bool (true == (decide (at_ ≤ ((m : Int) - (2 * k)))))) (k := ?_)
          refine WL.op (d := 62) (.bool (true == (decide (at_ ≤ ((m : Int) - (2 * k)))))) (k := ?_)
          refine bsplit (true == (decide (at_ ≤ ((m : Int) - (2 * k))))) (fun h45 => ?_) (fun h45 => ?_)
          · have ph45 := eq_of_beq h45
            refine WL.rw (t := 62) (v := .bool true) (congrArg Value.bool h45) (k := ?_)
            refine WL.op (d := 63) (.bool false) (k := ?_)
            refine WL.op (d := 64) (.bool true) (k := ?_)
            refine WL.op (d := 65) (.bool true) (k := ?_)
            refine WL.op (d := 66) (.bool true) (k := ?_)
            refine WL.op (d := 67) (.int .i64 1) (k := ?_)
            refine WL.op (d := 68) (.bool true) (k := ?_)
            refine WL.op (d := 69) (.bool true) (k := ?_)
            refine WL.op (d := 70) (.bool true) (k := ?_)
            refine WL.op (d := 71) (.int .i64 1) (k := ?_)
            refine WL.op (d := 72) (.bool true) (k := ?_)
            refine WL.op (d := 73) (.bool true) (k := ?_)
            refine WL.op (d := 74) (.bool true) (k := ?_)
            refine WL.op (d := 75) (.pointer none) (k := ?_)
            refine WL.callG (d := 76) (f := 44) (args := #[.pointer none]) (svRoom_nil w43) (k := fun e_ w46 h_ => ⟨.int .i64 0, h_.1, ?_⟩)
            have k47 := h_.2; clear h_
            replace hd11 := hd11.adds k47
            replace hb21 := k47.heap hb21 id
            replace hb36 := k47.heap hb36 id
            replace K := K.trans (k47.any _)
            refine WL.op (d := 77) (.bool true) (k := ?_)
            refine WL.op (d := 78) (.bool true) (k := ?_)
            refine WL.op (d := 79) (.bool true) (k := ?_)
            refine WL.op (d := 80) (.pointer none) (k := ?_)
            refine WL.callG (d := 81) (f := 42) (args := #[.pointer none]) (svNewest_nil w46) (k := fun e_ w48 h_ => ⟨.int .u64 0, h_.1, ?_⟩)
            have k49 := h_.2; clear h_
            replace hd11 := hd11.adds k49
            replace hb21 := k49.heap hb21 id
            replace hb36 := k49.heap hb36 id
            replace K := K.trans (k49.any _)
            refine WL.op (d := 82) (.bool true) (k := ?_)
            refine WL.op (d := 83) (.bool true) (k := ?_)
            refine WL.op (d := 84) (.bool true) (k := ?_)
            refine WL.callG (d := 85) (f := 37) (args := #[.pointer none, .int .i64 0, .int .i64 1]) (svNew_nil (at_ := 0) (k := 1) (by omega) (by omega) w48) (k := fun e_ w50 h_ => ⟨.pointer none, h_.1, ?_⟩)
            have k51 := h_.2; clear h_
            replace hd11 := hd11.adds k51
            replace hb21 := k51.heap hb21 id
            replace hb36 := k51.heap hb36 id
            replace K := K.trans (k51.any _)
            refine WL.op (d := 86) (.bool true) (k := ?_)
            refine WL.op (d := 87) (.bool true) (k := ?_)
            refine WL.op (d := 6) (.bool true) (k := ?_)
            refine WL.nil ?_
            refine WX.seqN ?_
            refine WC.ret ?_
            refine WX.ret (rs := [.tmp 6]) [.bool true] (.bool true) ⟨(by kernel_rfl), trivial⟩ (k := ?_)
            exact ⟨rfl, K⟩
          · have ph45 := ne_of_beq_false h45
            refine WL.rw (t := 62) (v := .bool false) (congrArg Value.bool h45) (k := ?_)
            refine WL.skip (d := 63) (k := ?_)
            refine WL.skip (d := 64) (k := ?_)
            refine WL.op (d := 65) (.bool false) (k := ?_)
            refine WL.op (d := 66) (.bool false) (k := ?_)
            refine WL.skip (d := 67) (k := ?_)
            refine WL.skip (d := 68) (k := ?_)
            refine WL.op (d := 69) (.bool false) (k := ?_)
            refine WL.op (d := 70) (.bool false) (k := ?_)
            refine WL.skip (d := 71) (k := ?_)
            refine WL.skip (d := 72) (k := ?_)
            refine WL.op (d := 73) (.bool false) (k := ?_)
            refine WL.op (d := 74) (.bool false) (k := ?_)
            refine WL.skip (d := 75) (k := ?_)
            refine WL.skip (d := 76) (k := ?_)
            refine WL.skip (d := 77) (k := ?_)
            refine WL.op (d := 78) (.bool false) (k := ?_)
            refine WL.op (d := 79) (.bool false) (k := ?_)
            refine WL.skip (d := 80) (k := ?_)
            refine WL.skip (d := 81) (k := ?_)
            refine WL.skip (d := 82) (k := ?_)
            refine WL.op (d := 83) (.bool false) (k := ?_)
            refine WL.op (d := 84) (.bool false) (k := ?_)
            refine WL.skip (d := 85) (k := ?_)
            refine WL.skip (d := 86) (k := ?_)
            refine WL.op (d := 87) (.bool false) (k := ?_)
            refine WL.op (d := 6) (.bool false) (k := ?_)
            refine WL.nil ?_
            refine WX.seqN ?_
            refine WC.ret ?_
            refine WX.ret (rs := [.tmp 6]) [.bool false] (.bool false) ⟨(by kernel_rfl), trivial⟩ (k := ?_)
            exfalso; first | omega | (simp at *; omega)
        · have ph42 := of_decide_eq_false h42
          refine WL.rw (t := 47) (v := .bool false) (congrArg Value.bool h42) (k := ?_)
          refine WL.skip (d := 48) (k := ?_)
          refine WL.skip (d := 49) (k := ?_)
          refine WL.skip (d := 50) (k := ?_)
          refine WL.skip (d := 51) (k := ?_)
          refine WL.skip (d := 52) (k := ?_)
          refine WL.skip (d := 53) (k := ?_)
          refine WL.op (d := 54) (.bool false) (k := ?_)
          refine WL.op (d := 15) (.bool false) (k := ?_)
          refine WL.nil ?_
          refine WX.seqN ?_
          refine WC.seq ?_
          refine WC.region ?_
          refine WL.callG (d := 55) (f := 36) (args := #[]) (l06awake_c w38) (k := fun e_ w52 h_ => ⟨.bool true, h_.1, ?_⟩)
          have k53 := h_.2; clear h_
          replace hd11 := hd11.adds k53
          replace hb21 := k53.heap hb21 id
          replace hb36 := k53.heap hb36 id
          replace K := K.trans (k53.any _)
          refine WL.op (d := 56) (.bool true) (k := ?_)
          refine WL.op (d := 57) (.pointer (some ⟨b19, 0, none⟩)) (k := ?_)
          refine WL.op (d := 58) (.bool true) (k := ?_)
          refine WL.op (d := 59) (.bool false) (k := ?_)
          refine WL.op (d := 60) (.bool false) (k := ?_)
          refine WL.op (d := 61) (.bool false) (k := ?_)
          refine WL.op (d := 62) (.bool false) (k := ?_)
          refine WL.skip (d := 63) (k := ?_)
          refine WL.skip (d := 64) (k := ?_)
          refine WL.op (d := 65) (.bool false) (k := ?_)
          refine WL.op (d := 66) (.bool false) (k := ?_)
          refine WL.skip (d := 67) (k := ?_)
          refine WL.skip (d := 68) (k := ?_)
          refine WL.op (d := 69) (.bool false) (k := ?_)
          refine WL.op (d := 70) (.bool false) (k := ?_)
          refine WL.skip (d := 71) (k := ?_)
          refine WL.skip (d := 72) (k := ?_)
          refine WL.op (d := 73) (.bool false) (k := ?_)
          refine WL.op (d := 74) (.bool false) (k := ?_)
          refine WL.skip (d := 75) (k := ?_)
          refine WL.skip (d := 76) (k := ?_)
          refine WL.skip (d := 77) (k := ?_)
          refine WL.op (d := 78) (.bool false) (k := ?_)
          refine WL.op (d := 79) (.bool false) (k := ?_)
          refine WL.skip (d := 80) (k := ?_)
          refine WL.skip (d := 81) (k := ?_)
          refine WL.skip (d := 82) (k := ?_)
          refine WL.op (d := 83) (.bool false) (k := ?_)
          refine WL.op (d := 84) (.bool false) (k := ?_)
          refine WL.skip (d := 85) (k := ?_)
          refine WL.skip (d := 86) (k := ?_)
          refine WL.op (d := 87) (.bool false) (k := ?_)
          refine WL.op (d := 6) (.bool false) (k := ?_)
          refine WL.nil ?_
          refine WX.seqN ?_
          refine WC.ret ?_
          refine WX.ret (rs := [.tmp 6]) [.bool false] (.bool false) ⟨(by kernel_rfl), trivial⟩ (k := ?_)
          exfalso; first | omega | (simp at *; omega)
      · have ph41 := of_decide_eq_false h41
        refine WL.rw (t := 43) (v := .bool false) (congrArg Value.bool h41) (k := ?_)
        refine WL.skip (d := 44) (k := ?_)
        refine WL.skip (d := 45) (k := ?_)
        refine WL.op (d := 46) (.bool false) (k := ?_)
        refine WL.op (d := 47) (.bool false) (k := ?_)
        refine WL.skip (d := 48) (k := ?_)
        refine WL.skip (d := 49) (k := ?_)
        refine WL.skip (d := 50) (k := ?_)
        refine WL.skip (d := 51) (k := ?_)
        refine WL.skip (d := 52) (k := ?_)
        refine WL.skip (d := 53) (k := ?_)
        refine WL.op (d := 54) (.bool false) (k := ?_)
        refine WL.op (d := 15) (.bool false) (k := ?_)
        refine WL.nil ?_
        refine WX.seqN ?_
        refine WC.seq ?_
        refine WC.region ?_
        refine WL.callG (d := 55) (f := 36) (args := #[]) (l06awake_c w38) (k := fun e_ w54 h_ => ⟨.bool true, h_.1, ?_⟩)
        have k55 := h_.2; clear h_
        replace hd11 := hd11.adds k55
        replace hb21 := k55.heap hb21 id
        replace hb36 := k55.heap hb36 id
        replace K := K.trans (k55.any _)
        refine WL.op (d := 56) (.bool true) (k := ?_)
        refine WL.op (d := 57) (.pointer (some ⟨b19, 0, none⟩)) (k := ?_)
        refine WL.op (d := 58) (.bool true) (k := ?_)
        refine WL.op (d := 59) (.bool false) (k := ?_)
        refine WL.op (d := 60) (.bool false) (k := ?_)
        refine WL.op (d := 61) (.bool false) (k := ?_)
        refine WL.op (d := 62) (.bool false) (k := ?_)
        refine WL.skip (d := 63) (k := ?_)
        refine WL.skip (d := 64) (k := ?_)
        refine WL.op (d := 65) (.bool false) (k := ?_)
        refine WL.op (d := 66) (.bool false) (k := ?_)
        refine WL.skip (d := 67) (k := ?_)
        refine WL.skip (d := 68) (k := ?_)
        refine WL.op (d := 69) (.bool false) (k := ?_)
        refine WL.op (d := 70) (.bool false) (k := ?_)
        refine WL.skip (d := 71) (k := ?_)
        refine WL.skip (d := 72) (k := ?_)
        refine WL.op (d := 73) (.bool false) (k := ?_)
        refine WL.op (d := 74) (.bool false) (k := ?_)
        refine WL.skip (d := 75) (k := ?_)
        refine WL.skip (d := 76) (k := ?_)
        refine WL.skip (d := 77) (k := ?_)
        refine WL.op (d := 78) (.bool false) (k := ?_)
        refine WL.op (d := 79) (.bool false) (k := ?_)
        refine WL.skip (d := 80) (k := ?_)
        refine WL.skip (d := 81) (k := ?_)
        refine WL.skip (d := 82) (k := ?_)
        refine WL.op (d := 83) (.bool false) (k := ?_)
        refine WL.op (d := 84) (.bool false) (k := ?_)
        refine WL.skip (d := 85) (k := ?_)
        refine WL.skip (d := 86) (k := ?_)
        refine WL.op (d := 87) (.bool false) (k := ?_)
        refine WL.op (d := 6) (.bool false) (k := ?_)
        refine WL.nil ?_
        refine WX.seqN ?_
        refine WC.ret ?_
        refine WX.ret (rs := [.tmp 6]) [.bool false] (.bool false) ⟨(by kernel_rfl), trivial⟩ (k := ?_)
        exfalso; first | omega | (simp at *; omega)
    · have ph40 := of_decide_eq_false h40
      refine WL.rw (t := 39) (v := .bool false) (congrArg Value.bool h40) (k := ?_)
      refine WL.skip (d := 40) (k := ?_)
      refine WL.skip (d := 41) (k := ?_)
      refine WL.op (d := 42) (.bool false) (k := ?_)
      refine WL.op (d := 43) (.bool false) (k := ?_)
      refine WL.skip (d := 44) (k := ?_)
      refine WL.skip (d := 45) (k := ?_)
      refine WL.op (d := 46) (.bool false) (k := ?_)
      refine WL.op (d := 47) (.bool false) (k := ?_)
      refine WL.skip (d := 48) (k := ?_)
      refine WL.skip (d := 49) (k := ?_)
      refine WL.skip (d := 50) (k := ?_)
      refine WL.skip (d := 51) (k := ?_)
      refine WL.skip (d := 52) (k := ?_)
      refine WL.skip (d := 53) (k := ?_)
      refine WL.op (d := 54) (.bool false) (k := ?_)
      refine WL.op (d := 15) (.bool false) (k := ?_)
      refine WL.nil ?_
      refine WX.seqN ?_
      refine WC.seq ?_
      refine WC.region ?_
      refine WL.callG (d := 55) (f := 36) (args := #[]) (l06awake_c w38) (k := fun e_ w56 h_ => ⟨.bool true, h_.1, ?_⟩)
      have k57 := h_.2; clear h_
      replace hd11 := hd11.adds k57
      replace hb21 := k57.heap hb21 id
      replace hb36 := k57.heap hb36 id
      replace K := K.trans (k57.any _)
      refine WL.op (d := 56) (.bool true) (k := ?_)
      refine WL.op (d := 57) (.pointer (some ⟨b19, 0, none⟩)) (k := ?_)
      refine WL.op (d := 58) (.bool true) (k := ?_)
      refine WL.op (d := 59) (.bool false) (k := ?_)
      refine WL.op (d := 60) (.bool false) (k := ?_)
      refine WL.op (d := 61) (.bool false) (k := ?_)
      refine WL.op (d := 62) (.bool false) (k := ?_)
      refine WL.skip (d := 63) (k := ?_)
      refine WL.skip (d := 64) (k := ?_)
      refine WL.op (d := 65) (.bool false) (k := ?_)
      refine WL.op (d := 66) (.bool false) (k := ?_)
      refine WL.skip (d := 67) (k := ?_)
      refine WL.skip (d := 68) (k := ?_)
      refine WL.op (d := 69) (.bool false) (k := ?_)
      refine WL.op (d := 70) (.bool false) (k := ?_)
      refine WL.skip (d := 71) (k := ?_)
      refine WL.skip (d := 72) (k := ?_)
      refine WL.op (d := 73) (.bool false) (k := ?_)
      refine WL.op (d := 74) (.bool false) (k := ?_)
      refine WL.skip (d := 75) (k := ?_)
      refine WL.skip (d := 76) (k := ?_)
      refine WL.skip (d := 77) (k := ?_)
      refine WL.op (d := 78) (.bool false) (k := ?_)
      refine WL.op (d := 79) (.bool false) (k := ?_)
      refine WL.skip (d := 80) (k := ?_)
      refine WL.skip (d := 81) (k := ?_)
      refine WL.skip (d := 82) (k := ?_)
      refine WL.op (d := 83) (.bool false) (k := ?_)
      refine WL.op (d := 84) (.bool false) (k := ?_)
      refine WL.skip (d := 85) (k := ?_)
      refine WL.skip (d := 86) (k := ?_)
      refine WL.op (d := 87) (.bool false) (k := ?_)
      refine WL.op (d := 6) (.bool false) (k := ?_)
      refine WL.nil ?_
      refine WX.seqN ?_
      refine WC.ret ?_
      refine WX.ret (rs := [.tmp 6]) [.bool false] (.bool false) ⟨(by kernel_rfl), trivial⟩ (k := ?_)
      exfalso; first | omega | (simp at *; omega)
  · have ph17 := of_decide_eq_false h17
    refine WL.callG (d := 25) (f := 37) (args := #[.pointer (some ⟨b8, 0, none⟩), .int .i64 at_, .int .i64 k]) (svNew_no (at_ := at_) (k := k) hd11 (by omega) (by omega) ph17) (k := fun e_ w58 h_ => ⟨.pointer none, h_.1, ?_⟩)
    have k59 := h_.2; clear h_
    replace hd11 := hd11.adds k59
    replace K := K.trans (k59.any _)
    refine WL.op (d := 8) (.pointer none) (k := ?_)
    refine WL.nil ?_
    refine WX.seqN ?_
    refine WC.seq ?_
    refine WC.region ?_
    refine WL.op (d := 9) (.pointer none) (k := ?_)
    refine WL.nil ?_
    refine WX.seqN ?_
    refine WC.seq ?_
    refine WC.region ?_
    refine WL.op (d := 27) (.pointer none) (k := ?_)
    refine WL.callG (d := 28) (f := 39) (args := #[.pointer none]) (svRead_nil w58) (k := fun e_ w60 h_ => ⟨.tuple #[.agg #[.int .u64 0, .string ⟨#[]⟩], .bool false, .int .i64 1], h_.1, ?_⟩)
    have k61 := h_.2; clear h_
    replace hd11 := hd11.adds k61
    replace K := K.trans (k61.any _)
    refine WL.op (d := 26) (.tuple #[.agg #[.int .u64 0, .string ⟨#[]⟩], .bool false, .int .i64 1]) (k := ?_)
    refine WL.op (d := 29) (.agg #[.int .u64 0, .string ⟨#[]⟩]) (k := ?_)
    refine WL.op (d := 30) (.bool false) (k := ?_)
    refine WL.op (d := 31) (.int .i64 1) (k := ?_)
    refine WL.new (d := 10) (T := 64) #[.int .u64 0, .string ⟨#[]⟩] (k := fun b62 w63 g64 hb65 k66 => ?_)
    have z67 := Nat.le_trans K.size g64
    have n68 : ¬ S9 b62 := fun h => absurd (hd11.lt _ h) (Nat.not_lt.2 g64)
    replace hd11 := hd11.adds k66
    replace K := K.trans (k66.any _)
    refine WL.store (v := .agg #[.int .u64 0, .string ⟨#[]⟩]) (i := 0) (cs' := #[.int .u64 0, .string ⟨#[]⟩]) hb65 (k := fun w69 hb70 k71 => ?_)
    replace hd11 := hd11.keeps k71 (fun i hi e => n68 (e ▸ hi))
    replace K := K.trans' k71 (fun i hi e => absurd (e ▸ hi) (Nat.not_lt.2 z67))
    clear hb65
    refine WL.op (d := 11) (.bool false) (k := ?_)
    refine WL.op (d := 12) (.int .i64 1) (k := ?_)
    refine WL.nil ?_
    refine WX.seqN ?_
    refine WC.seq ?_
    refine WC.region ?_
    refine WL.op (d := 33) (.pointer none) (k := ?_)
    refine WL.callG (d := 34) (f := 38) (args := #[.pointer none, .string ⟨#[]⟩]) (svWrite_nil (l := []) w69) (k := fun e_ w72 h_ => ⟨.tuple #[.int .u64 0, .int .i64 1], h_.1, ?_⟩)
    have k73 := h_.2; clear h_
    replace hd11 := hd11.adds k73
    replace hb70 := k73.heap hb70 id
    replace K := K.trans (k73.any _)
    refine WL.op (d := 32) (.tuple #[.int .u64 0, .int .i64 1]) (k := ?_)
    refine WL.op (d := 35) (.int .u64 0) (k := ?_)
    refine WL.op (d := 36) (.int .i64 1) (k := ?_)
    refine WL.op (d := 13) (.int .u64 0) (k := ?_)
    refine WL.op (d := 14) (.int .i64 1) (k := ?_)
    refine WL.nil ?_
    refine WX.seqN ?_
    refine WC.seq ?_
    refine WC.region ?_
    refine WL.op (d := 37) (.int .i64 at_) (k := ?_)
    refine WL.op (d := 38) (.bool (decide (at_ ≥ 0))) (k := ?_)
    refine WL.op (d := 39) (.bool (decide (at_ ≥ 0))) (k := ?_)
    refine bsplit (decide (at_ ≥ 0)) (fun h74 => ?_) (fun h74 => ?_)
    · have ph74 := of_decide_eq_true h74
      refine WL.rw (t := 39) (v := .bool true) (congrArg Value.bool h74) (k := ?_)
      refine WL.op (d := 40) (.int .i64 k) (k := ?_)
      refine WL.op (d := 41) (.bool (decide (k ≥ 1))) (k := ?_)
      refine WL.op (d := 42) (.bool (decide (k ≥ 1))) (k := ?_)
      refine WL.op (d := 43) (.bool (decide (k ≥ 1))) (k := ?_)
      refine bsplit (decide (k ≥ 1)) (fun h75 => ?_) (fun h75 => ?_)
      · have ph75 := of_decide_eq_true h75
        refine WL.rw (t := 43) (v := .bool true) (congrArg Value.bool h75) (k := ?_)
        refine WL.op (d := 44) (.int .i64 k) (k := ?_)
        refine WL.op (d := 45) (.bool (decide (k ≤ 64))) (k := ?_)
        refine WL.op (d := 46) (.bool (decide (k ≤ 64))) (k := ?_)
        refine WL.op (d := 47) (.bool (decide (k ≤ 64))) (k := ?_)
        refine bsplit (decide (k ≤ 64)) (fun h76 => ?_) (fun h76 => ?_)
        · have ph76 := of_decide_eq_true h76
          refine WL.rw (t := 47) (v := .bool true) (congrArg Value.bool h76) (k := ?_)
          refine WL.op (d := 48) (.int .i64 at_) (k := ?_)
          refine WL.op (d := 49) (.int .i64 (m : Int)) (k := ?_)
          refine WL.op (d := 50) (.int .i64 k) (k := ?_)
          refine WL.opE (d := 51) (.int .i64 (IntKind.i64.wrap (2 * k))) (v := .int .i64 (2 * k)) (congrArg (Value.int .i64) (IntWalk.i64_in _ (by omega))) (k := ?_)
          refine WL.opE (d := 52) (.int .i64 (IntKind.i64.wrap ((m : Int) - (2 * k)))) (v := .int .i64 ((m : Int) - (2 * k))) (congrArg (Value.int .i64) (IntWalk.i64_in _ (by omega))) (k := ?_)
          refine WL.op (d := 53) (.bool (decide (at_ ≤ ((m : Int) - (2 * k))))) (k := ?_)
          refine WL.op (d := 54) (.bool (decide (at_ ≤ ((m : Int) - (2 * k))))) (k := ?_)
          refine WL.op (d := 15) (.bool (decide (at_ ≤ ((m : Int) - (2 * k))))) (k := ?_)
          refine WL.nil ?_
          refine WX.seqN ?_
          refine WC.seq ?_
          refine WC.region ?_
          refine WL.callG (d := 55) (f := 36) (args := #[]) (l06awake_c w72) (k := fun e_ w77 h_ => ⟨.bool true, h_.1, ?_⟩)
          have k78 := h_.2; clear h_
          replace hd11 := hd11.adds k78
          replace hb70 := k78.heap hb70 id
          replace K := K.trans (k78.any _)
          refine WL.op (d := 56) (.bool true) (k := ?_)
          refine WL.op (d := 57) (.pointer none) (k := ?_)
          refine WL.op (d := 58) (.bool false) (k := ?_)
          refine WL.op (d := 59) (.bool (decide (at_ ≤ ((m : Int) - (2 * k))))) (k := ?_)
          refine WL.op (d := 60) (.bool (false == (decide (at_ ≤ ((m : Int) - (2 * k)))))) (k := ?_)
          refine WL.op (d := 61) (.bool (false == (decide (at_ ≤ ((m : Int) - (2 * k)))))) (k := ?_)
          refine WL.op (d := 62) (.bool (false == (decide (at_ ≤ ((m : Int) - (2 * k)))))) (k := ?_)
          refine bsplit (false == (decide (at_ ≤ ((m : Int) - (2 * k))))) (fun h79 => ?_) (fun h79 => ?_)
          · have ph79 := eq_of_beq h79
            refine WL.rw (t := 62) (v := .bool true) (congrArg Value.bool h79) (k := ?_)
            refine WL.op (d := 63) (.bool false) (k := ?_)
            refine WL.op (d := 64) (.bool true) (k := ?_)
            refine WL.op (d := 65) (.bool true) (k := ?_)
            refine WL.op (d := 66) (.bool true) (k := ?_)
            refine WL.op (d := 67) (.int .i64 1) (k := ?_)
            refine WL.op (d := 68) (.bool true) (k := ?_)
            refine WL.op (d := 69) (.bool true) (k := ?_)
            refine WL.op (d := 70) (.bool true) (k := ?_)
            refine WL.op (d := 71) (.int .i64 1) (k := ?_)
            refine WL.op (d := 72) (.bool true) (k := ?_)
            refine WL.op (d := 73) (.bool true) (k := ?_)
            refine WL.op (d := 74) (.bool true) (k := ?_)
            refine WL.op (d := 75) (.pointer none) (k := ?_)
            refine WL.callG (d := 76) (f := 44) (args := #[.pointer none]) (svRoom_nil w77) (k := fun e_ w80 h_ => ⟨.int .i64 0, h_.1, ?_⟩)
            have k81 := h_.2; clear h_
            replace hd11 := hd11.adds k81
            replace hb70 := k81.heap hb70 id
            replace K := K.trans (k81.any _)
            refine WL.op (d := 77) (.bool true) (k := ?_)
            refine WL.op (d := 78) (.bool true) (k := ?_)
            refine WL.op (d := 79) (.bool true) (k := ?_)
            refine WL.op (d := 80) (.pointer none) (k := ?_)
            refine WL.callG (d := 81) (f := 42) (args := #[.pointer none]) (svNewest_nil w80) (k := fun e_ w82 h_ => ⟨.int .u64 0, h_.1, ?_⟩)
            have k83 := h_.2; clear h_
            replace hd11 := hd11.adds k83
            replace hb70 := k83.heap hb70 id
            replace K := K.trans (k83.any _)
            refine WL.op (d := 82) (.bool true) (k := ?_)
            refine WL.op (d := 83) (.bool true) (k := ?_)
            refine WL.op (d := 84) (.bool true) (k := ?_)
            refine WL.callG (d := 85) (f := 37) (args := #[.pointer none, .int .i64 0, .int .i64 1]) (svNew_nil (at_ := 0) (k := 1) (by omega) (by omega) w82) (k := fun e_ w84 h_ => ⟨.pointer none, h_.1, ?_⟩)
            have k85 := h_.2; clear h_
            replace hd11 := hd11.adds k85
            replace hb70 := k85.heap hb70 id
            replace K := K.trans (k85.any _)
            refine WL.op (d := 86) (.bool true) (k := ?_)
            refine WL.op (d := 87) (.bool true) (k := ?_)
            refine WL.op (d := 6) (.bool true) (k := ?_)
            refine WL.nil ?_
            refine WX.seqN ?_
            refine WC.ret ?_
            refine WX.ret (rs := [.tmp 6]) [.bool true] (.bool true) ⟨(by kernel_rfl), trivial⟩ (k := ?_)
            exact ⟨rfl, K⟩
          · have ph79 := ne_of_beq_false h79
            refine WL.rw (t := 62) (v := .bool false) (congrArg Value.bool h79) (k := ?_)
            refine WL.skip (d := 63) (k := ?_)
            refine WL.skip (d := 64) (k := ?_)
            refine WL.op (d := 65) (.bool false) (k := ?_)
            refine WL.op (d := 66) (.bool false) (k := ?_)
            refine WL.skip (d := 67) (k := ?_)
            refine WL.skip (d := 68) (k := ?_)
            refine WL.op (d := 69) (.bool false) (k := ?_)
            refine WL.op (d := 70) (.bool false) (k := ?_)
            refine WL.skip (d := 71) (k := ?_)
            refine WL.skip (d := 72) (k := ?_)
            refine WL.op (d := 73) (.bool false) (k := ?_)
            refine WL.op (d := 74) (.bool false) (k := ?_)
            refine WL.skip (d := 75) (k := ?_)
            refine WL.skip (d := 76) (k := ?_)
            refine WL.skip (d := 77) (k := ?_)
            refine WL.op (d := 78) (.bool false) (k := ?_)
            refine WL.op (d := 79) (.bool false) (k := ?_)
            refine WL.skip (d := 80) (k := ?_)
            refine WL.skip (d := 81) (k := ?_)
            refine WL.skip (d := 82) (k := ?_)
            refine WL.op (d := 83) (.bool false) (k := ?_)
            refine WL.op (d := 84) (.bool false) (k := ?_)
            refine WL.skip (d := 85) (k := ?_)
            refine WL.skip (d := 86) (k := ?_)
            refine WL.op (d := 87) (.bool false) (k := ?_)
            refine WL.op (d := 6) (.bool false) (k := ?_)
            refine WL.nil ?_
            refine WX.seqN ?_
            refine WC.ret ?_
            refine WX.ret (rs := [.tmp 6]) [.bool false] (.bool false) ⟨(by kernel_rfl), trivial⟩ (k := ?_)
            exfalso; first | omega | (simp at *; omega)
        · have ph76 := of_decide_eq_false h76
          refine WL.rw (t := 47) (v := .bool false) (congrArg Value.bool h76) (k := ?_)
          refine WL.skip (d := 48) (k := ?_)
          refine WL.skip (d := 49) (k := ?_)
          refine WL.skip (d := 50) (k := ?_)
          refine WL.skip (d := 51) (k := ?_)
          refine WL.skip (d := 52) (k := ?_)
          refine WL.skip (d := 53) (k := ?_)
          refine WL.op (d := 54) (.bool false) (k := ?_)
          refine WL.op (d := 15) (.bool false) (k := ?_)
          refine WL.nil ?_
          refine WX.seqN ?_
          refine WC.seq ?_
          refine WC.region ?_
          refine WL.callG (d := 55) (f := 36) (args := #[]) (l06awake_c w72) (k := fun e_ w86 h_ => ⟨.bool true, h_.1, ?_⟩)
          have k87 := h_.2; clear h_
          replace hd11 := hd11.adds k87
          replace hb70 := k87.heap hb70 id
          replace K := K.trans (k87.any _)
          refine WL.op (d := 56) (.bool true) (k := ?_)
          refine WL.op (d := 57) (.pointer none) (k := ?_)
          refine WL.op (d := 58) (.bool false) (k := ?_)
          refine WL.op (d := 59) (.bool false) (k := ?_)
          refine WL.op (d := 60) (.bool true) (k := ?_)
          refine WL.op (d := 61) (.bool true) (k := ?_)
          refine WL.op (d := 62) (.bool true) (k := ?_)
          refine WL.op (d := 63) (.bool false) (k := ?_)
          refine WL.op (d := 64) (.bool true) (k := ?_)
          refine WL.op (d := 65) (.bool true) (k := ?_)
          refine WL.op (d := 66) (.bool true) (k := ?_)
          refine WL.op (d := 67) (.int .i64 1) (k := ?_)
          refine WL.op (d := 68) (.bool true) (k := ?_)
          refine WL.op (d := 69) (.bool true) (k := ?_)
          refine WL.op (d := 70) (.bool true) (k := ?_)
          refine WL.op (d := 71) (.int .i64 1) (k := ?_)
          refine WL.op (d := 72) (.bool true) (k := ?_)
          refine WL.op (d := 73) (.bool true) (k := ?_)
          refine WL.op (d := 74) (.bool true) (k := ?_)
          refine WL.op (d := 75) (.pointer none) (k := ?_)
          refine WL.callG (d := 76) (f := 44) (args := #[.pointer none]) (svRoom_nil w86) (k := fun e_ w88 h_ => ⟨.int .i64 0, h_.1, ?_⟩)
          have k89 := h_.2; clear h_
          replace hd11 := hd11.adds k89
          replace hb70 := k89.heap hb70 id
          replace K := K.trans (k89.any _)
          refine WL.op (d := 77) (.bool true) (k := ?_)
          refine WL.op (d := 78) (.bool true) (k := ?_)
          refine WL.op (d := 79) (.bool true) (k := ?_)
          refine WL.op (d := 80) (.pointer none) (k := ?_)
          refine WL.callG (d := 81) (f := 42) (args := #[.pointer none]) (svNewest_nil w88) (k := fun e_ w90 h_ => ⟨.int .u64 0, h_.1, ?_⟩)
          have k91 := h_.2; clear h_
          replace hd11 := hd11.adds k91
          replace hb70 := k91.heap hb70 id
          replace K := K.trans (k91.any _)
          refine WL.op (d := 82) (.bool true) (k := ?_)
          refine WL.op (d := 83) (.bool true) (k := ?_)
          refine WL.op (d := 84) (.bool true) (k := ?_)
          refine WL.callG (d := 85) (f := 37) (args := #[.pointer none, .int .i64 0, .int .i64 1]) (svNew_nil (at_ := 0) (k := 1) (by omega) (by omega) w90) (k := fun e_ w92 h_ => ⟨.pointer none, h_.1, ?_⟩)
          have k93 := h_.2; clear h_
          replace hd11 := hd11.adds k93
          replace hb70 := k93.heap hb70 id
          replace K := K.trans (k93.any _)
          refine WL.op (d := 86) (.bool true) (k := ?_)
          refine WL.op (d := 87) (.bool true) (k := ?_)
          refine WL.op (d := 6) (.bool true) (k := ?_)
          refine WL.nil ?_
          refine WX.seqN ?_
          refine WC.ret ?_
          refine WX.ret (rs := [.tmp 6]) [.bool true] (.bool true) ⟨(by kernel_rfl), trivial⟩ (k := ?_)
          exact ⟨rfl, K⟩
      · have ph75 := of_decide_eq_false h75
        refine WL.rw (t := 43) (v := .bool false) (congrArg Value.bool h75) (k := ?_)
        refine WL.skip (d := 44) (k := ?_)
        refine WL.skip (d := 45) (k := ?_)
        refine WL.op (d := 46) (.bool false) (k := ?_)
        refine WL.op (d := 47) (.bool false) (k := ?_)
        refine WL.skip (d := 48) (k := ?_)
        refine WL.skip (d := 49) (k := ?_)
        refine WL.skip (d := 50) (k := ?_)
        refine WL.skip (d := 51) (k := ?_)
        refine WL.skip (d := 52) (k := ?_)
        refine WL.skip (d := 53) (k := ?_)
        refine WL.op (d := 54) (.bool false) (k := ?_)
        refine WL.op (d := 15) (.bool false) (k := ?_)
        refine WL.nil ?_
        refine WX.seqN ?_
        refine WC.seq ?_
        refine WC.region ?_
        refine WL.callG (d := 55) (f := 36) (args := #[]) (l06awake_c w72) (k := fun e_ w94 h_ => ⟨.bool true, h_.1, ?_⟩)
        have k95 := h_.2; clear h_
        replace hd11 := hd11.adds k95
        replace hb70 := k95.heap hb70 id
        replace K := K.trans (k95.any _)
        refine WL.op (d := 56) (.bool true) (k := ?_)
        refine WL.op (d := 57) (.pointer none) (k := ?_)
        refine WL.op (d := 58) (.bool false) (k := ?_)
        refine WL.op (d := 59) (.bool false) (k := ?_)
        refine WL.op (d := 60) (.bool true) (k := ?_)
        refine WL.op (d := 61) (.bool true) (k := ?_)
        refine WL.op (d := 62) (.bool true) (k := ?_)
        refine WL.op (d := 63) (.bool false) (k := ?_)
        refine WL.op (d := 64) (.bool true) (k := ?_)
        refine WL.op (d := 65) (.bool true) (k := ?_)
        refine WL.op (d := 66) (.bool true) (k := ?_)
        refine WL.op (d := 67) (.int .i64 1) (k := ?_)
        refine WL.op (d := 68) (.bool true) (k := ?_)
        refine WL.op (d := 69) (.bool true) (k := ?_)
        refine WL.op (d := 70) (.bool true) (k := ?_)
        refine WL.op (d := 71) (.int .i64 1) (k := ?_)
        refine WL.op (d := 72) (.bool true) (k := ?_)
        refine WL.op (d := 73) (.bool true) (k := ?_)
        refine WL.op (d := 74) (.bool true) (k := ?_)
        refine WL.op (d := 75) (.pointer none) (k := ?_)
        refine WL.callG (d := 76) (f := 44) (args := #[.pointer none]) (svRoom_nil w94) (k := fun e_ w96 h_ => ⟨.int .i64 0, h_.1, ?_⟩)
        have k97 := h_.2; clear h_
        replace hd11 := hd11.adds k97
        replace hb70 := k97.heap hb70 id
        replace K := K.trans (k97.any _)
        refine WL.op (d := 77) (.bool true) (k := ?_)
        refine WL.op (d := 78) (.bool true) (k := ?_)
        refine WL.op (d := 79) (.bool true) (k := ?_)
        refine WL.op (d := 80) (.pointer none) (k := ?_)
        refine WL.callG (d := 81) (f := 42) (args := #[.pointer none]) (svNewest_nil w96) (k := fun e_ w98 h_ => ⟨.int .u64 0, h_.1, ?_⟩)
        have k99 := h_.2; clear h_
        replace hd11 := hd11.adds k99
        replace hb70 := k99.heap hb70 id
        replace K := K.trans (k99.any _)
        refine WL.op (d := 82) (.bool true) (k := ?_)
        refine WL.op (d := 83) (.bool true) (k := ?_)
        refine WL.op (d := 84) (.bool true) (k := ?_)
        refine WL.callG (d := 85) (f := 37) (args := #[.pointer none, .int .i64 0, .int .i64 1]) (svNew_nil (at_ := 0) (k := 1) (by omega) (by omega) w98) (k := fun e_ w100 h_ => ⟨.pointer none, h_.1, ?_⟩)
        have k101 := h_.2; clear h_
        replace hd11 := hd11.adds k101
        replace hb70 := k101.heap hb70 id
        replace K := K.trans (k101.any _)
        refine WL.op (d := 86) (.bool true) (k := ?_)
        refine WL.op (d := 87) (.bool true) (k := ?_)
        refine WL.op (d := 6) (.bool true) (k := ?_)
        refine WL.nil ?_
        refine WX.seqN ?_
        refine WC.ret ?_
        refine WX.ret (rs := [.tmp 6]) [.bool true] (.bool true) ⟨(by kernel_rfl), trivial⟩ (k := ?_)
        exact ⟨rfl, K⟩
    · have ph74 := of_decide_eq_false h74
      refine WL.rw (t := 39) (v := .bool false) (congrArg Value.bool h74) (k := ?_)
      refine WL.skip (d := 40) (k := ?_)
      refine WL.skip (d := 41) (k := ?_)
      refine WL.op (d := 42) (.bool false) (k := ?_)
      refine WL.op (d := 43) (.bool false) (k := ?_)
      refine WL.skip (d := 44) (k := ?_)
      refine WL.skip (d := 45) (k := ?_)
      refine WL.op (d := 46) (.bool false) (k := ?_)
      refine WL.op (d := 47) (.bool false) (k := ?_)
      refine WL.skip (d := 48) (k := ?_)
      refine WL.skip (d := 49) (k := ?_)
      refine WL.skip (d := 50) (k := ?_)
      refine WL.skip (d := 51) (k := ?_)
      refine WL.skip (d := 52) (k := ?_)
      refine WL.skip (d := 53) (k := ?_)
      refine WL.op (d := 54) (.bool false) (k := ?_)
      refine WL.op (d := 15) (.bool false) (k := ?_)
      refine WL.nil ?_
      refine WX.seqN ?_
      refine WC.seq ?_
      refine WC.region ?_
      refine WL.callG (d := 55) (f := 36) (args := #[]) (l06awake_c w72) (k := fun e_ w102 h_ => ⟨.bool true, h_.1, ?_⟩)
      have k103 := h_.2; clear h_
      replace hd11 := hd11.adds k103
      replace hb70 := k103.heap hb70 id
      replace K := K.trans (k103.any _)
      refine WL.op (d := 56) (.bool true) (k := ?_)
      refine WL.op (d := 57) (.pointer none) (k := ?_)
      refine WL.op (d := 58) (.bool false) (k := ?_)
      refine WL.op (d := 59) (.bool false) (k := ?_)
      refine WL.op (d := 60) (.bool true) (k := ?_)
      refine WL.op (d := 61) (.bool true) (k := ?_)
      refine WL.op (d := 62) (.bool true) (k := ?_)
      refine WL.op (d := 63) (.bool false) (k := ?_)
      refine WL.op (d := 64) (.bool true) (k := ?_)
      refine WL.op (d := 65) (.bool true) (k := ?_)
      refine WL.op (d := 66) (.bool true) (k := ?_)
      refine WL.op (d := 67) (.int .i64 1) (k := ?_)
      refine WL.op (d := 68) (.bool true) (k := ?_)
      refine WL.op (d := 69) (.bool true) (k := ?_)
      refine WL.op (d := 70) (.bool true) (k := ?_)
      refine WL.op (d := 71) (.int .i64 1) (k := ?_)
      refine WL.op (d := 72) (.bool true) (k := ?_)
      refine WL.op (d := 73) (.bool true) (k := ?_)
      refine WL.op (d := 74) (.bool true) (k := ?_)
      refine WL.op (d := 75) (.pointer none) (k := ?_)
      refine WL.callG (d := 76) (f := 44) (args := #[.pointer none]) (svRoom_nil w102) (k := fun e_ w104 h_ => ⟨.int .i64 0, h_.1, ?_⟩)
      have k105 := h_.2; clear h_
      replace hd11 := hd11.adds k105
      replace hb70 := k105.heap hb70 id
      replace K := K.trans (k105.any _)
      refine WL.op (d := 77) (.bool true) (k := ?_)
      refine WL.op (d := 78) (.bool true) (k := ?_)
      refine WL.op (d := 79) (.bool true) (k := ?_)
      refine WL.op (d := 80) (.pointer none) (k := ?_)
      refine WL.callG (d := 81) (f := 42) (args := #[.pointer none]) (svNewest_nil w104) (k := fun e_ w106 h_ => ⟨.int .u64 0, h_.1, ?_⟩)
      have k107 := h_.2; clear h_
      replace hd11 := hd11.adds k107
      replace hb70 := k107.heap hb70 id
      replace K := K.trans (k107.any _)
      refine WL.op (d := 82) (.bool true) (k := ?_)
      refine WL.op (d := 83) (.bool true) (k := ?_)
      refine WL.op (d := 84) (.bool true) (k := ?_)
      refine WL.callG (d := 85) (f := 37) (args := #[.pointer none, .int .i64 0, .int .i64 1]) (svNew_nil (at_ := 0) (k := 1) (by omega) (by omega) w106) (k := fun e_ w108 h_ => ⟨.pointer none, h_.1, ?_⟩)
      have k109 := h_.2; clear h_
      replace hd11 := hd11.adds k109
      replace hb70 := k109.heap hb70 id
      replace K := K.trans (k109.any _)
      refine WL.op (d := 86) (.bool true) (k := ?_)
      refine WL.op (d := 87) (.bool true) (k := ?_)
      refine WL.op (d := 6) (.bool true) (k := ?_)
      refine WL.nil ?_
      refine WX.seqN ?_
      refine WC.ret ?_
      refine WX.ret (rs := [.tmp 6]) [.bool true] (.bool true) ⟨(by kernel_rfl), trivial⟩ (k := ?_)
      exact ⟨rfl, K⟩

set_option maxRecDepth 100000 in
set_option maxHeartbeats 4000000 in
theorem lSlotsTurn_c {A : Option Addr} {ca : Nat} {as_ : List (List UInt8)} {w : World} (hA : SlAt strC 1 9 A as_ w) (hAm : ∀ s ∈ as_, s.length ≤ 9223372036854775807) (na : as_.length ≤ 9223372036854775807) : Calls Tryd.prog 12 #[.slice A as_.length ca] w fun e w' => e = .returned (.bool true) ∧ Adds w w' := by
  have K : Keeps (fun _ => False) w w := Keeps.refl _ w
  refine Calls.start Tryd.func12 rfl (by kernel_rfl) ?_
  refine WC.seq ?_
  refine WC.region ?_
  refine WL.op (d := 2) (.bool false) (k := ?_)
  refine WL.nil ?_
  refine WX.seqN ?_
  refine WC.seq ?_
  refine WC.region ?_
  refine WL.callG (d := 21) (f := 36) (args := #[]) (l06awake_c w) (k := fun e_ w1 h_ => ⟨.bool true, h_.1, ?_⟩)
  have k2 := h_.2; clear h_
  replace K := K.trans (k2.any _)
  refine WL.op (d := 3) (.bool true) (k := ?_)
  refine WL.nil ?_
  refine WX.seqN ?_
  refine WC.seq ?_
  refine WC.region ?_
  refine WL.callG (d := 22) (f := 28) (args := #[.int .i64 4]) (dNew_ok (n := 4) (by omega) (by omega) w1) (k := fun e_ w3 h_ => ?_)
  obtain ⟨b4, S5, rfl, g6, hd7, ho8, k9⟩ := h_
  refine ⟨_, rfl, ?_⟩
  have lk10 : ∀ k, S5 k → False ∨ w.heap.size ≤ k := fun k h => .inr (Nat.le_trans K.size (ho8 k h))
  have z11 := Nat.le_trans K.size g6
  replace K := K.trans (k9.any _)
  change DiskAt S5 b4 (⟨duo 0 [] 0 [], [], 0, 0⟩ : GDisk) w3 at hd7
  have ln12 : (GDisk.secs (⟨duo 0 [] 0 [], [], 0, 0⟩ : GDisk)).length = 4 := rfl
  refine WL.op (d := 4) (.pointer (some ⟨b4, 0, none⟩)) (k := ?_)
  refine WL.nil ?_
  refine WX.seqN ?_
  refine WC.seq ?_
  refine WC.region ?_
  refine WL.op (d := 23) (.pointer (some ⟨b4, 0, none⟩)) (k := ?_)
  refine WL.callG (d := 24) (f := 37) (args := #[.pointer (some ⟨b4, 0, none⟩), .int .i64 0, .int .i64 2]) (svNew_ok (at_ := 0) (k := 2) hd7 (by omega) (by omega) ⟨by decide, by decide, by decide, by show (0 : Int) ≤ ((duo 0 [] 0 []).length : Int) - 2 * 2; rw [duo_len]; decide⟩) (k := fun e_ w13 h_ => ?_)
  obtain ⟨b14, rfl, g15, hb16, k17⟩ := h_
  refine ⟨_, rfl, ?_⟩
  have z18 := Nat.le_trans K.size g15
  have n19 : ¬ S5 b14 := fun h => absurd (hd7.lt _ h) (Nat.not_lt.2 g15)
  replace hd7 := hd7.adds k17
  replace K := K.trans (k17.any _)
  refine WL.op (d := 5) (.pointer (some ⟨b14, 0, none⟩)) (k := ?_)
  refine WL.nil ?_
  refine WX.seqN ?_
  refine WC.seq ?_
  refine WC.seq ?_
  refine WC.region ?_
  refine WL.op (d := 25) (.pointer (some ⟨b4, 0, none⟩)) (k := ?_)
  refine WL.op (d := 26) (.bool false) (k := ?_)
  refine WL.op (d := 27) (.bool false) (k := ?_)
  refine WL.op (d := 28) (.pointer (some ⟨b14, 0, none⟩)) (k := ?_)
  refine WL.op (d := 29) (.bool false) (k := ?_)
  refine WL.op (d := 30) (.bool false) (k := ?_)
  refine WL.nil ?_
  refine WX.seqN ?_
  refine WC.condF (k := ?_)
  refine WC.skip ?_
  refine WX.seqN ?_
  refine WC.seq ?_
  refine WC.region ?_
  refine WL.op (d := 32) (.pointer (some ⟨b14, 0, none⟩)) (k := ?_)
  refine WL.callG (d := 33) (f := 39) (args := #[.pointer (some ⟨b14, 0, none⟩)]) (svRead_none hb16 hd7 n19) (k := fun e_ w20 h_ => ?_)
  obtain ⟨rd21, rfl, hb22, hd23, k24⟩ := h_
  refine ⟨_, rfl, ?_⟩
  replace K := K.trans' k24 (fun i hi e => e.elim (fun e => absurd (e ▸ hi) (Nat.not_lt.2 z18)) (fun e => (lk10 i e).elim (fun h => h.elim) (fun h => absurd hi (Nat.not_lt.2 h))))
  clear hb16 hd7
  refine WL.op (d := 31) (.tuple #[.agg #[.int .u64 0, .string ⟨#[]⟩], .bool false, .int .i64 0]) (k := ?_)
  refine WL.op (d := 34) (.agg #[.int .u64 0, .string ⟨#[]⟩]) (k := ?_)
  refine WL.op (d := 35) (.bool false) (k := ?_)
  refine WL.op (d := 36) (.int .i64 0) (k := ?_)
  refine WL.new (d := 6) (T := 64) #[.int .u64 0, .string ⟨#[]⟩] (k := fun b25 w26 g27 hb28 k29 => ?_)
  have z30 := Nat.le_trans K.size g27
  have n31 : ¬ S5 b25 := fun h => absurd (hd23.lt _ h) (Nat.not_lt.2 g27)
  have n32 : b14 ≠ b25 := Nat.ne_of_lt (Nat.lt_of_lt_of_le (lt_of_heap hb22) g27)
  replace hd23 := hd23.adds k29
  replace hb22 := k29.heap hb22 id
  replace K := K.trans (k29.any _)
  refine WL.store (v := .agg #[.int .u64 0, .string ⟨#[]⟩]) (i := 0) (cs' := #[.int .u64 0, .string ⟨#[]⟩]) hb28 (k := fun w33 hb34 k35 => ?_)
  replace hd23 := hd23.keeps k35 (fun i hi e => n31 (e ▸ hi))
  replace hb22 := k35.heap hb22 n32
  replace K := K.trans' k35 (fun i hi e => absurd (e ▸ hi) (Nat.not_lt.2 z30))
  clear hb28
  refine WL.op (d := 7) (.bool false) (k := ?_)
  refine WL.op (d := 8) (.int .i64 0) (k := ?_)
  refine WL.nil ?_
  refine WX.seqN ?_
  refine WC.seq ?_
  refine WC.seq ?_
  refine WC.region ?_
  refine WL.op (d := 37) (.bool false) (k := ?_)
  refine WL.op (d := 38) (.bool false) (k := ?_)
  refine WL.op (d := 39) (.int .i64 0) (k := ?_)
  refine WL.op (d := 40) (.bool false) (k := ?_)
  refine WL.op (d := 41) (.bool false) (k := ?_)
  refine WL.nil ?_
  refine WX.seqN ?_
  refine WC.condF (k := ?_)
  refine WC.skip ?_
  refine WX.seqN ?_
  refine WC.seq ?_
  refine WC.seq ?_
  refine WC.region ?_
  refine WL.op (d := 9) (.int .i64 0) (k := ?_)
  refine WL.nil ?_
  refine WX.seqN ?_
  refine WC.block ?_
  refine WC.loop (ι := Int × Nat × (List UInt8) × Nat × (List UInt8) × Nat × Int × Int × (Nat → Prop)) (fun (⟨i, e0, t0, e1, t1, nw, la, rd, Si⟩ : Int × Nat × (List UInt8) × Nat × (List UInt8) × Nat × Int × Int × (Nat → Prop)) => [(0, .slice A as_.length ca), (21, .bool true), (3, .bool true), (22, .pointer (some ⟨b4, 0, none⟩)), (4, .pointer (some ⟨b4, 0, none⟩)), (23, .pointer (some ⟨b4, 0, none⟩)), (24, .pointer (some ⟨b14, 0, none⟩)), (5, .pointer (some ⟨b14, 0, none⟩)), (25, .pointer (some ⟨b4, 0, none⟩)), (26, .bool false), (27, .bool false), (28, .pointer (some ⟨b14, 0, none⟩)), (29, .bool false), (30, .bool false), (32, .pointer (some ⟨b14, 0, none⟩)), (33, .tuple #[.agg #[.int .u64 0, .string ⟨#[]⟩], .bool false, .int .i64 0]), (31, .tuple #[.agg #[.int .u64 0, .string ⟨#[]⟩], .bool false, .int .i64 0]), (34, .agg #[.int .u64 0, .string ⟨#[]⟩]), (35, .bool false), (36, .int .i64 0), (6, .pointer (some ⟨b25, 0, none⟩)), (7, .bool false), (8, .int .i64 0), (37, .bool false), (38, .bool false), (39, .int .i64 0), (40, .bool false), (41, .bool false), (9, .int .i64 i)]) (fun (⟨i, e0, t0, e1, t1, nw, la, rd, Si⟩ : Int × Nat × (List UInt8) × Nat × (List UInt8) × Nat × Int × Int × (Nat → Prop)) (w_ : World) => (Keeps (fun _ => False) w w_) ∧ (DiskAt Si b4 (⟨duo e0 t0 e1 t1, [], 0, rd⟩ : GDisk) w_) ∧ (∀ k, Si k → (fun _ => False) k ∨ w.heap.size ≤ k) ∧ (¬ Si b14) ∧ (¬ Si b25) ∧ (w_.heap[b14]? = some (.cells #[.pointer (some ⟨b4, 0, none⟩), .int .i64 0, .int .i64 2, .bool true, .int .u64 ((nw : Nat) : Int), .int .i64 la] 102 (0, 0))) ∧ (w_.heap[b25]? = some (.cells #[.int .u64 0, .string ⟨#[]⟩] 64 (0, 0))) ∧ (0 ≤ i) ∧ (i ≤ 12) ∧ ((nw : Int) = i) ∧ (SlOk 2 e0 t0) ∧ (SlOk 2 e1 t1) ∧ (e0 ≤ nw) ∧ (e1 ≤ nw) ∧ (la = 0 ∧ i % 2 = 1 ∧ e0 = nw ∨ ¬ la = 0 ∧ i % 2 = 0)) (fun (⟨i, e0, t0, e1, t1, nw, la, rd, Si⟩ : Int × Nat × (List UInt8) × Nat × (List UInt8) × Nat × Int × Int × (Nat → Prop)) => (12 - i).toNat) (0, 0, [], 0, [], 0, (-1), rd21, S5) ⟨(by kernel_rfl), (by kernel_rfl), (by kernel_rfl), (by kernel_rfl), (by kernel_rfl), (by kernel_rfl), (by kernel_rfl), (by kernel_rfl), (by kernel_rfl), (by kernel_rfl), (by kernel_rfl), (by kernel_rfl), (by kernel_rfl), (by kernel_rfl), (by kernel_rfl), (by kernel_rfl), (by kernel_rfl), (by kernel_rfl), (by kernel_rfl), (by kernel_rfl), (by kernel_rfl), (by kernel_rfl), (by kernel_rfl), (by kernel_rfl), (by kernel_rfl), (by kernel_rfl), (by kernel_rfl), (by kernel_rfl), (by kernel_rfl), trivial⟩ ⟨K, hd23, lk10, n19, n31, hb22, hb34, Int.le_refl 0, (by decide), rfl, slOk_zero, slOk_zero, (Nat.le_refl 0), (Nat.le_refl 0), (.inr ⟨by decide, by decide⟩)⟩ ?_
  rintro ⟨i, e0, t0, e1, t1, nw, la, rd, Si⟩ w36 ⟨K, hb37, lk38, n39, n40, hb41, hb42, i0, i1, hn, o0, o1, l0, l1, hp⟩
  refine WC.seq ?_
  refine WC.seq ?_
  refine WC.region ?_
  refine WL.op (d := 42) (.int .i64 i) (k := ?_)
  refine WL.op (d := 43) (.slice A as_.length ca) (k := ?_)
  refine WL.op (d := 44) (.int .i64 (as_.length : Int)) (k := ?_)
  refine WL.op (d := 45) (.bool (decide (i < (as_.length : Int)))) (k := ?_)
  refine WL.op (d := 46) (.bool (decide (i < (as_.length : Int)))) (k := ?_)
  refine bsplit (decide (i < (as_.length : Int))) (fun h43 => ?_) (fun h43 => ?_)
  · have ph43 := of_decide_eq_true h43
    refine WL.rw (t := 46) (v := .bool true) (congrArg Value.bool h43) (k := ?_)
    refine WL.op (d := 47) (.int .i64 i) (k := ?_)
    refine WL.op (d := 48) (.bool (decide (i < 12))) (k := ?_)
    refine WL.op (d := 49) (.bool (decide (i < 12))) (k := ?_)
    refine WL.nil ?_
    refine WX.seqN ?_
    refine WC.cond (b := decide (i < 12)) (ht := fun h44 => ?_) (hf := fun h44 => ?_)
    · have ph44 := of_decide_eq_true h44
      refine WC.skip ?_
      refine WX.seqN ?_
      refine WC.seq ?_
      refine WC.block ?_
      refine WC.seq ?_
      refine WC.region ?_
      refine WL.op (d := 53) (.pointer (some ⟨b14, 0, none⟩)) (k := ?_)
      refine WL.op (d := 54) (.slice A as_.length ca) (k := ?_)
      refine WL.op (d := 55) (.int .i64 i) (k := ?_)
      obtain ⟨b45, o46, r47, hr48, hA49, he50⟩ := SlAt.at hA (i := i) (by omega) (by omega)
      refine WL.rw (t := 54) (v := .slice (some ⟨b45, o46, none⟩) as_.length ca) (congrArg (fun a => Value.slice a as_.length ca) hA49) (k := ?_)
      have ll51 := hAm _ (List.mem_of_getElem? hr48)
      refine WL.idx (T := 44) (E := 9) (m := 1) (b := b45) (o := o46) (len := as_.length) (cap := ca) (i := i) (kk := .i64) (d := 56) (by omega) (by omega) (k := ?_)
      refine WL.rw (t := 54) (v := .slice A as_.length ca) (congrArg (fun a => Value.slice a as_.length ca) (Eq.symm hA49)) (k := ?_)
      refine WL.load (v := .string ⟨(r47).toArray⟩) ((he50.adds K).ld0 (T := 9)) (k := ?_)
      refine WL.callG (d := 58) (f := 41) (args := #[.string ⟨(r47).toArray⟩, .int .i64 86]) (l06short_c r47 86 (by omega) (by omega) w36) (k := fun e_ w52 h_ => ⟨.string ⟨(List.take 86 r47).toArray⟩, h_.1, ?_⟩)
      have k53 := h_.2; clear h_
      replace hb37 := hb37.adds k53
      replace hb41 := k53.heap hb41 id
      replace hb42 := k53.heap hb42 id
      replace K := K.trans (k53.any _)
      refine bsplit (decide (la = 0)) (fun h54 => ?_) (fun h54 => ?_)
      · have ph54 := of_decide_eq_true h54
        have hb55 := hb41
        rw [ph54] at hb55
        refine WL.callG (d := 59) (f := 38) (args := #[.pointer (some ⟨b14, 0, none⟩), .string ⟨(List.take 86 r47).toArray⟩]) (svWrite_second (l := List.take 86 r47) (nw := nw) hb55 hb37 n39 (by show List.length (List.take 86 r47) ≤ 86; first | omega | (simp; done) | (simp; omega)) (by omega)) (k := fun e_ w56 h_ => ?_)
        obtain ⟨S57, rfl, hb58, hd59, lk60, n61, k62⟩ := h_
        refine ⟨_, rfl, ?_⟩
        have n63 : ¬ S57 b25 := fun h => (lk60 _ h).elim n40 (fun h2 => absurd (lt_of_heap hb42) (Nat.not_lt.2 h2))
        have lk64 := lk_step lk38 lk60 K
        replace K := K.trans' k62 (fun i hi e => e.elim (fun e => absurd (e ▸ hi) (Nat.not_lt.2 z18)) (fun e => (lk38 i e).elim (fun h => h.elim) (fun h => absurd hi (Nat.not_lt.2 h))))
        replace hb42 := k62.heap hb42 (not_or.2 ⟨Ne.symm n32, n40⟩)
        clear hb41 hb37
        have ll_ : List.length (List.take 86 r47) ≤ 86 := (by show List.length (List.take 86 r47) ≤ 86; first | omega | (simp; done) | (simp; omega))
        have ok65 : SlOk 2 (nw + 1) (List.take 86 r47) := ⟨by omega, fun h => absurd h (by omega), by omega⟩
        refine WL.op (d := 52) (.tuple #[.int .u64 ((nw + 1 : Nat) : Int), .int .i64 0]) (k := ?_)
        refine WL.op (d := 60) (.int .u64 ((nw + 1 : Nat) : Int)) (k := ?_)
        refine WL.op (d := 61) (.int .i64 0) (k := ?_)
        refine WL.op (d := 10) (.int .u64 ((nw + 1 : Nat) : Int)) (k := ?_)
        refine WL.op (d := 11) (.int .i64 0) (k := ?_)
        refine WL.nil ?_
        refine WX.seqN ?_
        refine WC.seq ?_
        refine WC.region ?_
        refine WL.op (d := 63) (.pointer (some ⟨b14, 0, none⟩)) (k := ?_)
        refine WL.callG (d := 64) (f := 39) (args := #[.pointer (some ⟨b14, 0, none⟩)]) (svRead_second hb58 hd59 n61 o0 ok65 (by omega)) (k := fun e_ w66 h_ => ?_)
        obtain ⟨rd67, rfl, hb68, hd69, k70⟩ := h_
        refine ⟨_, rfl, ?_⟩
        replace K := K.trans' k70 (fun i hi e => e.elim (fun e => absurd (e ▸ hi) (Nat.not_lt.2 z18)) (fun e => (lk64 i e).elim (fun h => h.elim) (fun h => absurd hi (Nat.not_lt.2 h))))
        replace hb42 := k70.heap hb42 (not_or.2 ⟨Ne.symm n32, n63⟩)
        clear hb58 hd59
        have h71 : decide (¬ (nw + 1) = 0) = true := decide_eq_true (by omega)
        have ph71 := of_decide_eq_true h71
        refine WL.op (d := 62) (.tuple #[.agg #[.int .u64 ((nw + 1 : Nat) : Int), .string ⟨(List.take 86 r47).toArray⟩], .bool (decide (¬ (nw + 1) = 0)), .int .i64 0]) (k := ?_)
        refine WL.op (d := 65) (.agg #[.int .u64 ((nw + 1 : Nat) : Int), .string ⟨(List.take 86 r47).toArray⟩]) (k := ?_)
        refine WL.op (d := 66) (.bool (decide (¬ (nw + 1) = 0))) (k := ?_)
        refine WL.op (d := 67) (.int .i64 0) (k := ?_)
        refine WL.new (d := 12) (T := 64) #[.int .u64 0, .string ⟨#[]⟩] (k := fun b72 w73 g74 hb75 k76 => ?_)
        have z77 := Nat.le_trans K.size g74
        have n78 : ¬ S57 b72 := fun h => absurd (hd69.lt _ h) (Nat.not_lt.2 g74)
        have n79 : b14 ≠ b72 := Nat.ne_of_lt (Nat.lt_of_lt_of_le (lt_of_heap hb68) g74)
        have n80 : b25 ≠ b72 := Nat.ne_of_lt (Nat.lt_of_lt_of_le (lt_of_heap hb42) g74)
        replace hd69 := hd69.adds k76
        replace hb68 := k76.heap hb68 id
        replace hb42 := k76.heap hb42 id
        replace K := K.trans (k76.any _)
        refine WL.store (v := .agg #[.int .u64 ((nw + 1 : Nat) : Int), .string ⟨(List.take 86 r47).toArray⟩]) (i := 0) (cs' := #[.int .u64 ((nw + 1 : Nat) : Int), .string ⟨(List.take 86 r47).toArray⟩]) hb75 (k := fun w81 hb82 k83 => ?_)
        replace hd69 := hd69.keeps k83 (fun i hi e => n78 (e ▸ hi))
        replace hb68 := k83.heap hb68 n79
        replace hb42 := k83.heap hb42 n80
        replace K := K.trans' k83 (fun i hi e => absurd (e ▸ hi) (Nat.not_lt.2 z77))
        clear hb75
        refine WL.op (d := 13) (.bool (decide (¬ (nw + 1) = 0))) (k := ?_)
        refine WL.op (d := 14) (.int .i64 0) (k := ?_)
        refine WL.nil ?_
        refine WX.seqN ?_
        refine WC.seq ?_
        refine WC.region ?_
        refine WL.op (d := 68) (.pointer (some ⟨b4, 0, none⟩)) (k := ?_)
        refine WL.callG (d := 69) (f := 37) (args := #[.pointer (some ⟨b4, 0, none⟩), .int .i64 0, .int .i64 2]) (svNew_ok (at_ := 0) (k := 2) hd69 (by omega) (by omega) ⟨by decide, by decide, by decide, by show (0 : Int) ≤ ((duo e0 t0 (nw + 1) (List.take 86 r47)).length : Int) - 2 * 2; rw [duo_len]; decide⟩) (k := fun e_ w84 h_ => ?_)
        obtain ⟨b85, rfl, g86, hb87, k88⟩ := h_
        refine ⟨_, rfl, ?_⟩
        have z89 := Nat.le_trans K.size g86
        have n90 : ¬ S57 b85 := fun h => absurd (hd69.lt _ h) (Nat.not_lt.2 g86)
        have n91 : b14 ≠ b85 := Nat.ne_of_lt (Nat.lt_of_lt_of_le (lt_of_heap hb68) g86)
        have n92 : b25 ≠ b85 := Nat.ne_of_lt (Nat.lt_of_lt_of_le (lt_of_heap hb42) g86)
        have n93 : b72 ≠ b85 := Nat.ne_of_lt (Nat.lt_of_lt_of_le (lt_of_heap hb82) g86)
        replace hd69 := hd69.adds k88
        replace hb68 := k88.heap hb68 id
        replace hb42 := k88.heap hb42 id
        replace hb82 := k88.heap hb82 id
        replace K := K.trans (k88.any _)
        refine WL.op (d := 15) (.pointer (some ⟨b85, 0, none⟩)) (k := ?_)
        refine WL.nil ?_
        refine WX.seqN ?_
        refine WC.seq ?_
        refine WC.seq ?_
        refine WC.quiet (k := ?_)
        refine WQ.op (d := 70) (.int .i64 0) (k := ?_)
        refine WQ.op (d := 71) (.bool false) (k := ?_)
        refine WQ.op (d := 72) (.bool false) (k := ?_)
        refine WQ.op (d := 73) (.int .i64 0) (k := ?_)
        refine WQ.op (d := 74) (.bool false) (k := ?_)
        refine WQ.op (d := 75) (.bool false) (k := ?_)
        refine WQ.op (d := 76) (.bool false) (k := ?_)
        refine WQ.op (d := 77) (.bool (decide (¬ (nw + 1) = 0))) (k := ?_)
        refine WQ.op (d := 78) (.bool (!(decide (¬ (nw + 1) = 0)))) (k := ?_)
        refine WQ.op (d := 79) (.bool (!(decide (¬ (nw + 1) = 0)))) (k := ?_)
        refine WQ.op (d := 80) (.bool (!(decide (¬ (nw + 1) = 0)))) (k := ?_)
        refine WQ.rw (t := 80) (v := .bool false) (congrArg Value.bool (congrArg Bool.not h71)) (k := ?_)
        refine WQ.op (d := 81) (.int .u64 ((nw + 1 : Nat) : Int)) (k := ?_)
        refine WQ.op (d := 82) (.int .i64 i) (k := ?_)
        refine WQ.opE (d := 83) (.int .i64 (IntKind.i64.wrap (i + 1))) (v := .int .i64 (i + 1)) (congrArg (Value.int .i64) (IntWalk.i64_in _ (by omega))) (k := ?_)
        refine WQ.opE (d := 84) (.int .u64 (IntKind.u64.wrap (i + 1))) (v := .int .u64 (i + 1)) (congrArg (Value.int .u64) (IntWalk.u64_in _ (by omega))) (k := ?_)
        refine WQ.op (d := 85) (.bool (((nw + 1 : Nat) : Int) != (i + 1))) (k := ?_)
        refine WQ.op (d := 86) (.bool (((nw + 1 : Nat) : Int) != (i + 1))) (k := ?_)
        refine WQ.op (d := 87) (.bool (((nw + 1 : Nat) : Int) != (i + 1))) (k := ?_)
        refine bsplit (((nw + 1 : Nat) : Int) != (i + 1)) (fun h94 => ?_) (fun h94 => ?_)
        · have ph94 := bne_iff_ne.1 h94
          refine WQ.rw (t := 87) (v := .bool true) (congrArg Value.bool h94) (k := ?_)
          refine WQ.skip (d := 88) (k := ?_)
          refine WQ.skip (d := 89) (k := ?_)
          refine WQ.skip (d := 90) (k := ?_)
          refine WQ.skip (d := 91) (k := ?_)
          refine WQ.op (d := 92) (.bool true) (k := ?_)
          refine WQ.op (d := 93) (.bool true) (k := ?_)
          refine WQ.skip (d := 94) (k := ?_)
          refine WQ.skip (d := 95) (k := ?_)
          refine WQ.skip (d := 96) (k := ?_)
          refine WQ.skip (d := 97) (k := ?_)
          refine WQ.skip (d := 98) (k := ?_)
          refine WQ.skip (d := 99) (k := ?_)
          refine WQ.skip (d := 100) (k := ?_)
          refine WQ.skip (d := 101) (k := ?_)
          refine WQ.op (d := 102) (.bool true) (k := ?_)
          refine WQ.op (d := 103) (.bool true) (k := ?_)
          refine WQ.skip (d := 104) (k := ?_)
          refine WQ.skip (d := 105) (k := ?_)
          refine WQ.skip (d := 106) (k := ?_)
          refine WQ.skip (d := 107) (k := ?_)
          refine WQ.op (d := 108) (.bool true) (k := ?_)
          refine WQ.op (d := 109) (.bool true) (k := ?_)
          refine WQ.skip (d := 110) (k := ?_)
          refine WQ.skip (d := 111) (k := ?_)
          refine WQ.op (d := 112) (.bool true) (k := ?_)
          refine WQ.nilX (fun w95 k96 => ?_)
          replace hd69 := hd69.adds k96
          replace hb68 := k96.heap hb68 id
          replace hb42 := k96.heap hb42 id
          replace hb82 := k96.heap hb82 id
          replace hb87 := k96.heap hb87 id
          replace K := K.trans (k96.any _)
          refine WX.seqN ?_
          refine WC.condT (k := ?_)
          refine WC.seq ?_
          refine WC.region ?_
          refine WL.op (d := 2) (.bool false) (k := ?_)
          refine WL.nil ?_
          refine WX.seqN ?_
          refine WC.ret ?_
          refine WX.seqR ?_
          refine WX.blockR ?_
          refine WX.seqR ?_
          refine WX.seqR ?_
          refine WX.blockR ?_
          refine WX.seqR ?_
          refine WX.ret (rs := [.tmp 2]) [.bool false] (.bool false) ⟨(by kernel_rfl), trivial⟩ (k := ?_)
          exfalso; omega
        · have ph94 := of_bne_false h94
          refine WQ.rw (t := 87) (v := .bool false) (congrArg Value.bool h94) (k := ?_)
          refine WQ.op (d := 88) (.pointer (some ⟨b72, 0, none⟩)) (k := ?_)
          refine WQ.load (v := .int .u64 ((nw + 1 : Nat) : Int)) (fun w_ k_ => ld1 (T := 22) (i := 0) (k_.heap hb82 id)) (k := ?_)
          refine WQ.op (d := 90) (.int .u64 ((nw + 1 : Nat) : Int)) (k := ?_)
          refine WQ.opE (d := 91) (.bool (((nw + 1 : Nat) : Int) != ((nw + 1 : Nat) : Int))) (v := .bool false) (congrArg Value.bool (bne_self_eq_false _)) (k := ?_)
          refine WQ.op (d := 92) (.bool false) (k := ?_)
          refine WQ.op (d := 93) (.bool false) (k := ?_)
          refine WQ.op (d := 94) (.pointer (some ⟨b72, 1, none⟩)) (k := ?_)
          refine WQ.load (v := .string ⟨(List.take 86 r47).toArray⟩) (fun w_ k_ => ld1 (T := 9) (i := 1) (k_.heap hb82 id)) (k := ?_)
          refine WQ.op (d := 96) (.slice A as_.length ca) (k := ?_)
          refine WQ.op (d := 97) (.int .i64 i) (k := ?_)
          obtain ⟨b97, o98, r99, hr100, hA101, he102⟩ := SlAt.at hA (i := i) (by omega) (by omega)
          refine WQ.rw (t := 96) (v := .slice (some ⟨b97, o98, none⟩) as_.length ca) (congrArg (fun a => Value.slice a as_.length ca) hA101) (k := ?_)
          have ll103 := hAm _ (List.mem_of_getElem? hr100)
          refine WQ.idx (T := 44) (E := 9) (m := 1) (b := b97) (o := o98) (len := as_.length) (cap := ca) (i := i) (kk := .i64) (d := 98) (by omega) (by omega) (k := ?_)
          refine WQ.rw (t := 96) (v := .slice A as_.length ca) (congrArg (fun a => Value.slice a as_.length ca) (Eq.symm hA101)) (k := ?_)
          refine WQ.load (v := .string ⟨(r99).toArray⟩) (fun w_ k_ => ((he102.adds K).adds k_).ld0 (T := 9)) (k := ?_)
          refine WQ.callG (d := 100) (f := 41) (args := #[.string ⟨(r99).toArray⟩, .int .i64 86]) (v := .string ⟨(List.take 86 r99).toArray⟩) (fun w_ k_ => l06short_c r99 86 (by omega) (by omega) w_) addsR (k := ?_)
          refine WQ.opE (d := 101) (.bool !(ByteArray.toList ⟨(List.take 86 r47).toArray⟩ == ByteArray.toList ⟨(List.take 86 r99).toArray⟩)) (v := .bool (!(decide (List.take 86 r47 = List.take 86 r99)))) (str_neq _ _) (k := ?_)
          refine WQ.op (d := 102) (.bool (!(decide (List.take 86 r47 = List.take 86 r99)))) (k := ?_)
          refine WQ.op (d := 103) (.bool (!(decide (List.take 86 r47 = List.take 86 r99)))) (k := ?_)
          refine bsplit (!(decide (List.take 86 r47 = List.take 86 r99))) (fun h104 => ?_) (fun h104 => ?_)
          · have h105 : (decide (List.take 86 r47 = List.take 86 r99)) = false := Bool.not_inj (y := false) h104
            have ph105 := of_decide_eq_false h105
            refine WQ.rw (t := 103) (v := .bool true) (congrArg Value.bool h104) (k := ?_)
            refine WQ.skip (d := 104) (k := ?_)
            refine WQ.skip (d := 105) (k := ?_)
            refine WQ.skip (d := 106) (k := ?_)
            refine WQ.skip (d := 107) (k := ?_)
            refine WQ.op (d := 108) (.bool true) (k := ?_)
            refine WQ.op (d := 109) (.bool true) (k := ?_)
            refine WQ.skip (d := 110) (k := ?_)
            refine WQ.skip (d := 111) (k := ?_)
            refine WQ.op (d := 112) (.bool true) (k := ?_)
            refine WQ.nilX (fun w106 k107 => ?_)
            replace hd69 := hd69.adds k107
            replace hb68 := k107.heap hb68 id
            replace hb42 := k107.heap hb42 id
            replace hb82 := k107.heap hb82 id
            replace hb87 := k107.heap hb87 id
            replace K := K.trans (k107.any _)
            refine WX.seqN ?_
            refine WC.condT (k := ?_)
            refine WC.seq ?_
            refine WC.region ?_
            refine WL.op (d := 2) (.bool false) (k := ?_)
            refine WL.nil ?_
            refine WX.seqN ?_
            refine WC.ret ?_
            refine WX.seqR ?_
            refine WX.blockR ?_
            refine WX.seqR ?_
            refine WX.seqR ?_
            refine WX.blockR ?_
            refine WX.seqR ?_
            refine WX.ret (rs := [.tmp 2]) [.bool false] (.bool false) ⟨(by kernel_rfl), trivial⟩ (k := ?_)
            exact absurd (congrArg (List.take 86) (Option.some.inj (hr48.symm.trans hr100))) ph105
          · have h108 : (decide (List.take 86 r47 = List.take 86 r99)) = true := Bool.not_inj (y := true) h104
            have ph108 := of_decide_eq_true h108
            refine WQ.rw (t := 103) (v := .bool false) (congrArg Value.bool h104) (k := ?_)
            refine WQ.op (d := 104) (.pointer (some ⟨b14, 0, none⟩)) (k := ?_)
            refine WQ.callG (d := 105) (f := 42) (args := #[.pointer (some ⟨b14, 0, none⟩)]) (v := .int .u64 ((nw + 1 : Nat) : Int)) (fun w_ k_ => svNewest_b (nw := nw + 1) (k_.heap hb68 id)) addsR (k := ?_)
            refine WQ.op (d := 106) (.int .u64 ((nw + 1 : Nat) : Int)) (k := ?_)
            refine WQ.opE (d := 107) (.bool (((nw + 1 : Nat) : Int) != ((nw + 1 : Nat) : Int))) (v := .bool false) (congrArg Value.bool (bne_self_eq_false _)) (k := ?_)
            refine WQ.op (d := 108) (.bool false) (k := ?_)
            refine WQ.op (d := 109) (.bool false) (k := ?_)
            refine WQ.op (d := 110) (.pointer (some ⟨b85, 0, none⟩)) (k := ?_)
            refine WQ.op (d := 111) (.bool false) (k := ?_)
            refine WQ.op (d := 112) (.bool false) (k := ?_)
            refine WQ.nilX (fun w109 k110 => ?_)
            replace hd69 := hd69.adds k110
            replace hb68 := k110.heap hb68 id
            replace hb42 := k110.heap hb42 id
            replace hb82 := k110.heap hb82 id
            replace hb87 := k110.heap hb87 id
            replace K := K.trans (k110.any _)
            refine WX.seqN ?_
            refine WC.condF (k := ?_)
            refine WC.skip ?_
            refine WX.seqN ?_
            refine WC.seq ?_
            refine WC.region ?_
            refine WL.op (d := 114) (.pointer (some ⟨b4, 0, none⟩)) (k := ?_)
            refine WL.op (d := 115) (.int .i64 i) (k := ?_)
            refine WL.bin (d := 116) (v := .int .i64 (bits BinOp.and IntKind.i64 i 1)) (bits_run (by decide)) (k := ?_)
            refine WL.rw (t := 116) (v := .int .i64 1) (congrArg (Value.int .i64) ((and1_eq (by omega)).trans (by omega))) (k := ?_)
            refine WL.op (d := 117) (.int .i64 2) (k := ?_)
            refine WL.callG (d := 118) (f := 43) (args := #[.pointer (some ⟨b4, 0, none⟩), .int .i64 2]) (dRead_duo (a := 2) hd69 (by decide) (by decide) (duo_get2 (by omega))) (k := fun e_ w111 h_ => ?_)
            obtain ⟨rd112, rfl, hd113, k114⟩ := h_
            refine ⟨_, rfl, ?_⟩
            replace hb68 := k114.heap hb68 n61
            replace hb42 := k114.heap hb42 n63
            replace hb82 := k114.heap hb82 n78
            replace hb87 := k114.heap hb87 n90
            replace K := K.trans' k114 (fun i hi e => (lk64 i e).elim (fun h => h.elim) (fun h => absurd hi (Nat.not_lt.2 h)))
            clear hd69
            have pl_ : (putX (chunks (List.take 86 r47)) (nw + 1) 0).length = 64 := put_lenc
            have pe_ : tgE (putX (chunks (List.take 86 r47)) (nw + 1) 0) = nw + 1 := tgE_put (by omega)
            refine WL.op (d := 113) (.tuple #[.string ⟨(putX (chunks (List.take 86 r47)) (nw + 1) 0).toArray⟩, .int .i64 0]) (k := ?_)
            refine WL.op (d := 119) (.string ⟨(putX (chunks (List.take 86 r47)) (nw + 1) 0).toArray⟩) (k := ?_)
            refine WL.op (d := 120) (.int .i64 0) (k := ?_)
            refine WL.op (d := 16) (.string ⟨(putX (chunks (List.take 86 r47)) (nw + 1) 0).toArray⟩) (k := ?_)
            refine WL.op (d := 17) (.int .i64 0) (k := ?_)
            refine WL.nil ?_
            refine WX.seqN ?_
            refine WC.seq ?_
            refine WC.region ?_
            refine WL.op (d := 121) (.string ⟨(putX (chunks (List.take 86 r47)) (nw + 1) 0).toArray⟩) (k := ?_)
            refine WL.callG (d := 122) (f := 20) (args := #[.string ⟨(putX (chunks (List.take 86 r47)) (nw + 1) 0).toArray⟩]) (u04Tag_c (l := putX (chunks (List.take 86 r47)) (nw + 1) 0) (by show List.length (putX (chunks (List.take 86 r47)) (nw + 1) 0) ≤ _; first | omega | (simp; done) | (simp; omega)) w111) (k := fun e_ w117 h_ => ⟨.agg #[.int .u64 ((tgE (putX (chunks (List.take 86 r47)) (nw + 1) 0) : Nat) : Int), .int .u64 ((tgN (putX (chunks (List.take 86 r47)) (nw + 1) 0) : Nat) : Int), .bool (decide (List.length (putX (chunks (List.take 86 r47)) (nw + 1) 0) = 64))], h_.1, ?_⟩)
            have k118 := h_.2; clear h_
            replace hd113 := hd113.adds k118
            replace hb68 := k118.heap hb68 id
            replace hb42 := k118.heap hb42 id
            replace hb82 := k118.heap hb82 id
            replace hb87 := k118.heap hb87 id
            replace K := K.trans (k118.any _)
            have te115 := tgE_lt (putX (chunks (List.take 86 r47)) (nw + 1) 0)
            have te116 := tgN_lt (putX (chunks (List.take 86 r47)) (nw + 1) 0)
            refine WL.new (d := 18) (T := 37) #[.int .u64 0, .int .u64 0, .bool false] (k := fun b119 w120 g121 hb122 k123 => ?_)
            have z124 := Nat.le_trans K.size g121
            have n125 : ¬ S57 b119 := fun h => absurd (hd113.lt _ h) (Nat.not_lt.2 g121)
            have n126 : b14 ≠ b119 := Nat.ne_of_lt (Nat.lt_of_lt_of_le (lt_of_heap hb68) g121)
            have n127 : b25 ≠ b119 := Nat.ne_of_lt (Nat.lt_of_lt_of_le (lt_of_heap hb42) g121)
            have n128 : b72 ≠ b119 := Nat.ne_of_lt (Nat.lt_of_lt_of_le (lt_of_heap hb82) g121)
            have n129 : b85 ≠ b119 := Nat.ne_of_lt (Nat.lt_of_lt_of_le (lt_of_heap hb87) g121)
            replace hd113 := hd113.adds k123
            replace hb68 := k123.heap hb68 id
            replace hb42 := k123.heap hb42 id
            replace hb82 := k123.heap hb82 id
            replace hb87 := k123.heap hb87 id
            replace K := K.trans (k123.any _)
            refine WL.store (v := .agg #[.int .u64 ((tgE (putX (chunks (List.take 86 r47)) (nw + 1) 0) : Nat) : Int), .int .u64 ((tgN (putX (chunks (List.take 86 r47)) (nw + 1) 0) : Nat) : Int), .bool (decide (List.length (putX (chunks (List.take 86 r47)) (nw + 1) 0) = 64))]) (i := 0) (cs' := #[.int .u64 ((tgE (putX (chunks (List.take 86 r47)) (nw + 1) 0) : Nat) : Int), .int .u64 ((tgN (putX (chunks (List.take 86 r47)) (nw + 1) 0) : Nat) : Int), .bool (decide (List.length (putX (chunks (List.take 86 r47)) (nw + 1) 0) = 64))]) hb122 (k := fun w130 hb131 k132 => ?_)
            replace hd113 := hd113.keeps k132 (fun i hi e => n125 (e ▸ hi))
            replace hb68 := k132.heap hb68 n126
            replace hb42 := k132.heap hb42 n127
            replace hb82 := k132.heap hb82 n128
            replace hb87 := k132.heap hb87 n129
            replace K := K.trans' k132 (fun i hi e => absurd (e ▸ hi) (Nat.not_lt.2 z124))
            clear hb122
            refine WL.nil ?_
            refine WX.seqN ?_
            refine WC.seq ?_
            refine WC.region ?_
            refine WL.op (d := 123) (.int .i64 0) (k := ?_)
            refine WL.op (d := 124) (.bool false) (k := ?_)
            refine WL.op (d := 125) (.bool false) (k := ?_)
            refine WL.op (d := 126) (.pointer (some ⟨b119, 0, none⟩)) (k := ?_)
            refine WL.load (v := .int .u64 ((tgE (putX (chunks (List.take 86 r47)) (nw + 1) 0) : Nat) : Int)) (ld1 (T := 22) (i := 0) hb131) (k := ?_)
            refine WL.op (d := 128) (.int .u64 ((nw + 1 : Nat) : Int)) (k := ?_)
            refine WL.op (d := 129) (.bool (((tgE (putX (chunks (List.take 86 r47)) (nw + 1) 0) : Nat) : Int) != ((nw + 1 : Nat) : Int))) (k := ?_)
            refine WL.op (d := 130) (.bool (((tgE (putX (chunks (List.take 86 r47)) (nw + 1) 0) : Nat) : Int) != ((nw + 1 : Nat) : Int))) (k := ?_)
            refine WL.nil ?_
            refine WX.seqN ?_
            refine WC.cond (b := ((tgE (putX (chunks (List.take 86 r47)) (nw + 1) 0) : Nat) : Int) != ((nw + 1 : Nat) : Int)) (ht := fun h133 => ?_) (hf := fun h133 => ?_)
            · have ph133 := bne_iff_ne.1 h133
              refine WC.seq ?_
              refine WC.region ?_
              refine WL.op (d := 2) (.bool false) (k := ?_)
              refine WL.nil ?_
              refine WX.seqN ?_
              refine WC.ret ?_
              refine WX.blockR ?_
              refine WX.seqR ?_
              refine WX.seqR ?_
              refine WX.blockR ?_
              refine WX.seqR ?_
              refine WX.ret (rs := [.tmp 2]) [.bool false] (.bool false) ⟨(by kernel_rfl), trivial⟩ (k := ?_)
              exfalso; omega
            · have ph133 := of_bne_false h133
              refine WC.skip ?_
              refine WX.blockN ?_
              refine WX.seqN ?_
              refine WC.region ?_
              refine WL.op (d := 50) (.int .i64 i) (k := ?_)
              refine WL.opE (d := 51) (.int .i64 (IntKind.i64.wrap (i + 1))) (v := .int .i64 (i + 1)) (congrArg (Value.int .i64) (IntWalk.i64_in _ (by omega))) (k := ?_)
              refine WL.op (d := 9) (.int .i64 (i + 1)) (k := ?_)
              refine WL.nil ?_
              refine WX.round (i + 1, e0, t0, nw + 1, List.take 86 r47, nw + 1, 1, rd112, S57) (by show (12 - (i + 1)).toNat < (12 - i).toNat; omega) ⟨(by kernel_rfl), (by kernel_rfl), (by kernel_rfl), (by kernel_rfl), (by kernel_rfl), (by kernel_rfl), (by kernel_rfl), (by kernel_rfl), (by kernel_rfl), (by kernel_rfl), (by kernel_rfl), (by kernel_rfl), (by kernel_rfl), (by kernel_rfl), (by kernel_rfl), (by kernel_rfl), (by kernel_rfl), (by kernel_rfl), (by kernel_rfl), (by kernel_rfl), (by kernel_rfl), (by kernel_rfl), (by kernel_rfl), (by kernel_rfl), (by kernel_rfl), (by kernel_rfl), (by kernel_rfl), (by kernel_rfl), (by kernel_rfl), trivial⟩ ⟨K, hd113, lk64, n61, n63, hb68, hb42, (by omega), (by omega), (by omega), o0, ok65, (by omega), (by omega), (by omega)⟩
      · have ph54 := of_decide_eq_false h54
        refine WL.callG (d := 59) (f := 38) (args := #[.pointer (some ⟨b14, 0, none⟩), .string ⟨(List.take 86 r47).toArray⟩]) (svWrite_first (l := List.take 86 r47) (nw := nw) (la := la) hb41 hb37 n39 (by show List.length (List.take 86 r47) ≤ 86; first | omega | (simp; done) | (simp; omega)) (by omega) ph54) (k := fun e_ w134 h_ => ?_)
        obtain ⟨S135, rfl, hb136, hd137, lk138, n139, k140⟩ := h_
        refine ⟨_, rfl, ?_⟩
        have n141 : ¬ S135 b25 := fun h => (lk138 _ h).elim n40 (fun h2 => absurd (lt_of_heap hb42) (Nat.not_lt.2 h2))
        have lk142 := lk_step lk38 lk138 K
        replace K := K.trans' k140 (fun i hi e => e.elim (fun e => absurd (e ▸ hi) (Nat.not_lt.2 z18)) (fun e => (lk38 i e).elim (fun h => h.elim) (fun h => absurd hi (Nat.not_lt.2 h))))
        replace hb42 := k140.heap hb42 (not_or.2 ⟨Ne.symm n32, n40⟩)
        clear hb41 hb37
        have ll_ : List.length (List.take 86 r47) ≤ 86 := (by show List.length (List.take 86 r47) ≤ 86; first | omega | (simp; done) | (simp; omega))
        have ok143 : SlOk 2 (nw + 1) (List.take 86 r47) := ⟨by omega, fun h => absurd h (by omega), by omega⟩
        refine WL.op (d := 52) (.tuple #[.int .u64 ((nw + 1 : Nat) : Int), .int .i64 0]) (k := ?_)
        refine WL.op (d := 60) (.int .u64 ((nw + 1 : Nat) : Int)) (k := ?_)
        refine WL.op (d := 61) (.int .i64 0) (k := ?_)
        refine WL.op (d := 10) (.int .u64 ((nw + 1 : Nat) : Int)) (k := ?_)
        refine WL.op (d := 11) (.int .i64 0) (k := ?_)
        refine WL.nil ?_
        refine WX.seqN ?_
        refine WC.seq ?_
        refine WC.region ?_
        refine WL.op (d := 63) (.pointer (some ⟨b14, 0, none⟩)) (k := ?_)
        refine WL.callG (d := 64) (f := 39) (args := #[.pointer (some ⟨b14, 0, none⟩)]) (svRead_first hb136 hd137 n139 ok143 o1 (by omega)) (k := fun e_ w144 h_ => ?_)
        obtain ⟨rd145, rfl, hb146, hd147, k148⟩ := h_
        refine ⟨_, rfl, ?_⟩
        replace K := K.trans' k148 (fun i hi e => e.elim (fun e => absurd (e ▸ hi) (Nat.not_lt.2 z18)) (fun e => (lk142 i e).elim (fun h => h.elim) (fun h => absurd hi (Nat.not_lt.2 h))))
        replace hb42 := k148.heap hb42 (not_or.2 ⟨Ne.symm n32, n141⟩)
        clear hb136 hd137
        have h149 : decide (¬ (nw + 1) = 0) = true := decide_eq_true (by omega)
        have ph149 := of_decide_eq_true h149
        refine WL.op (d := 62) (.tuple #[.agg #[.int .u64 ((nw + 1 : Nat) : Int), .string ⟨(List.take 86 r47).toArray⟩], .bool (decide (¬ (nw + 1) = 0)), .int .i64 0]) (k := ?_)
        refine WL.op (d := 65) (.agg #[.int .u64 ((nw + 1 : Nat) : Int), .string ⟨(List.take 86 r47).toArray⟩]) (k := ?_)
        refine WL.op (d := 66) (.bool (decide (¬ (nw + 1) = 0))) (k := ?_)
        refine WL.op (d := 67) (.int .i64 0) (k := ?_)
        refine WL.new (d := 12) (T := 64) #[.int .u64 0, .string ⟨#[]⟩] (k := fun b150 w151 g152 hb153 k154 => ?_)
        have z155 := Nat.le_trans K.size g152
        have n156 : ¬ S135 b150 := fun h => absurd (hd147.lt _ h) (Nat.not_lt.2 g152)
        have n157 : b14 ≠ b150 := Nat.ne_of_lt (Nat.lt_of_lt_of_le (lt_of_heap hb146) g152)
        have n158 : b25 ≠ b150 := Nat.ne_of_lt (Nat.lt_of_lt_of_le (lt_of_heap hb42) g152)
        replace hd147 := hd147.adds k154
        replace hb146 := k154.heap hb146 id
        replace hb42 := k154.heap hb42 id
        replace K := K.trans (k154.any _)
        refine WL.store (v := .agg #[.int .u64 ((nw + 1 : Nat) : Int), .string ⟨(List.take 86 r47).toArray⟩]) (i := 0) (cs' := #[.int .u64 ((nw + 1 : Nat) : Int), .string ⟨(List.take 86 r47).toArray⟩]) hb153 (k := fun w159 hb160 k161 => ?_)
        replace hd147 := hd147.keeps k161 (fun i hi e => n156 (e ▸ hi))
        replace hb146 := k161.heap hb146 n157
        replace hb42 := k161.heap hb42 n158
        replace K := K.trans' k161 (fun i hi e => absurd (e ▸ hi) (Nat.not_lt.2 z155))
        clear hb153
        refine WL.op (d := 13) (.bool (decide (¬ (nw + 1) = 0))) (k := ?_)
        refine WL.op (d := 14) (.int .i64 0) (k := ?_)
        refine WL.nil ?_
        refine WX.seqN ?_
        refine WC.seq ?_
        refine WC.region ?_
        refine WL.op (d := 68) (.pointer (some ⟨b4, 0, none⟩)) (k := ?_)
        refine WL.callG (d := 69) (f := 37) (args := #[.pointer (some ⟨b4, 0, none⟩), .int .i64 0, .int .i64 2]) (svNew_ok (at_ := 0) (k := 2) hd147 (by omega) (by omega) ⟨by decide, by decide, by decide, by show (0 : Int) ≤ ((duo (nw + 1) (List.take 86 r47) e1 t1).length : Int) - 2 * 2; rw [duo_len]; decide⟩) (k := fun e_ w162 h_ => ?_)
        obtain ⟨b163, rfl, g164, hb165, k166⟩ := h_
        refine ⟨_, rfl, ?_⟩
        have z167 := Nat.le_trans K.size g164
        have n168 : ¬ S135 b163 := fun h => absurd (hd147.lt _ h) (Nat.not_lt.2 g164)
        have n169 : b14 ≠ b163 := Nat.ne_of_lt (Nat.lt_of_lt_of_le (lt_of_heap hb146) g164)
        have n170 : b25 ≠ b163 := Nat.ne_of_lt (Nat.lt_of_lt_of_le (lt_of_heap hb42) g164)
        have n171 : b150 ≠ b163 := Nat.ne_of_lt (Nat.lt_of_lt_of_le (lt_of_heap hb160) g164)
        replace hd147 := hd147.adds k166
        replace hb146 := k166.heap hb146 id
        replace hb42 := k166.heap hb42 id
        replace hb160 := k166.heap hb160 id
        replace K := K.trans (k166.any _)
        refine WL.op (d := 15) (.pointer (some ⟨b163, 0, none⟩)) (k := ?_)
        refine WL.nil ?_
        refine WX.seqN ?_
        refine WC.seq ?_
        refine WC.seq ?_
        refine WC.quiet (k := ?_)
        refine WQ.op (d := 70) (.int .i64 0) (k := ?_)
        refine WQ.op (d := 71) (.bool false) (k := ?_)
        refine WQ.op (d := 72) (.bool false) (k := ?_)
        refine WQ.op (d := 73) (.int .i64 0) (k := ?_)
        refine WQ.op (d := 74) (.bool false) (k := ?_)
        refine WQ.op (d := 75) (.bool false) (k := ?_)
        refine WQ.op (d := 76) (.bool false) (k := ?_)
        refine WQ.op (d := 77) (.bool (decide (¬ (nw + 1) = 0))) (k := ?_)
        refine WQ.op (d := 78) (.bool (!(decide (¬ (nw + 1) = 0)))) (k := ?_)
        refine WQ.op (d := 79) (.bool (!(decide (¬ (nw + 1) = 0)))) (k := ?_)
        refine WQ.op (d := 80) (.bool (!(decide (¬ (nw + 1) = 0)))) (k := ?_)
        refine WQ.rw (t := 80) (v := .bool false) (congrArg Value.bool (congrArg Bool.not h149)) (k := ?_)
        refine WQ.op (d := 81) (.int .u64 ((nw + 1 : Nat) : Int)) (k := ?_)
        refine WQ.op (d := 82) (.int .i64 i) (k := ?_)
        refine WQ.opE (d := 83) (.int .i64 (IntKind.i64.wrap (i + 1))) (v := .int .i64 (i + 1)) (congrArg (Value.int .i64) (IntWalk.i64_in _ (by omega))) (k := ?_)
        refine WQ.opE (d := 84) (.int .u64 (IntKind.u64.wrap (i + 1))) (v := .int .u64 (i + 1)) (congrArg (Value.int .u64) (IntWalk.u64_in _ (by omega))) (k := ?_)
        refine WQ.op (d := 85) (.bool (((nw + 1 : Nat) : Int) != (i + 1))) (k := ?_)
        refine WQ.op (d := 86) (.bool (((nw + 1 : Nat) : Int) != (i + 1))) (k := ?_)
        refine WQ.op (d := 87) (.bool (((nw + 1 : Nat) : Int) != (i + 1))) (k := ?_)
        refine bsplit (((nw + 1 : Nat) : Int) != (i + 1)) (fun h172 => ?_) (fun h172 => ?_)
        · have ph172 := bne_iff_ne.1 h172
          refine WQ.rw (t := 87) (v := .bool true) (congrArg Value.bool h172) (k := ?_)
          refine WQ.skip (d := 88) (k := ?_)
          refine WQ.skip (d := 89) (k := ?_)
          refine WQ.skip (d := 90) (k := ?_)
          refine WQ.skip (d := 91) (k := ?_)
          refine WQ.op (d := 92) (.bool true) (k := ?_)
          refine WQ.op (d := 93) (.bool true) (k := ?_)
          refine WQ.skip (d := 94) (k := ?_)
          refine WQ.skip (d := 95) (k := ?_)
          refine WQ.skip (d := 96) (k := ?_)
          refine WQ.skip (d := 97) (k := ?_)
          refine WQ.skip (d := 98) (k := ?_)
          refine WQ.skip (d := 99) (k := ?_)
          refine WQ.skip (d := 100) (k := ?_)
          refine WQ.skip (d := 101) (k := ?_)
          refine WQ.op (d := 102) (.bool true) (k := ?_)
          refine WQ.op (d := 103) (.bool true) (k := ?_)
          refine WQ.skip (d := 104) (k := ?_)
          refine WQ.skip (d := 105) (k := ?_)
          refine WQ.skip (d := 106) (k := ?_)
          refine WQ.skip (d := 107) (k := ?_)
          refine WQ.op (d := 108) (.bool true) (k := ?_)
          refine WQ.op (d := 109) (.bool true) (k := ?_)
          refine WQ.skip (d := 110) (k := ?_)
          refine WQ.skip (d := 111) (k := ?_)
          refine WQ.op (d := 112) (.bool true) (k := ?_)
          refine WQ.nilX (fun w173 k174 => ?_)
          replace hd147 := hd147.adds k174
          replace hb146 := k174.heap hb146 id
          replace hb42 := k174.heap hb42 id
          replace hb160 := k174.heap hb160 id
          replace hb165 := k174.heap hb165 id
          replace K := K.trans (k174.any _)
          refine WX.seqN ?_
          refine WC.condT (k := ?_)
          refine WC.seq ?_
          refine WC.region ?_
          refine WL.op (d := 2) (.bool false) (k := ?_)
          refine WL.nil ?_
          refine WX.seqN ?_
          refine WC.ret ?_
          refine WX.seqR ?_
          refine WX.blockR ?_
          refine WX.seqR ?_
          refine WX.seqR ?_
          refine WX.blockR ?_
          refine WX.seqR ?_
          refine WX.ret (rs := [.tmp 2]) [.bool false] (.bool false) ⟨(by kernel_rfl), trivial⟩ (k := ?_)
          exfalso; omega
        · have ph172 := of_bne_false h172
          refine WQ.rw (t := 87) (v := .bool false) (congrArg Value.bool h172) (k := ?_)
          refine WQ.op (d := 88) (.pointer (some ⟨b150, 0, none⟩)) (k := ?_)
          refine WQ.load (v := .int .u64 ((nw + 1 : Nat) : Int)) (fun w_ k_ => ld1 (T := 22) (i := 0) (k_.heap hb160 id)) (k := ?_)
          refine WQ.op (d := 90) (.int .u64 ((nw + 1 : Nat) : Int)) (k := ?_)
          refine WQ.opE (d := 91) (.bool (((nw + 1 : Nat) : Int) != ((nw + 1 : Nat) : Int))) (v := .bool false) (congrArg Value.bool (bne_self_eq_false _)) (k := ?_)
          refine WQ.op (d := 92) (.bool false) (k := ?_)
          refine WQ.op (d := 93) (.bool false) (k := ?_)
          refine WQ.op (d := 94) (.pointer (some ⟨b150, 1, none⟩)) (k := ?_)
          refine WQ.load (v := .string ⟨(List.take 86 r47).toArray⟩) (fun w_ k_ => ld1 (T := 9) (i := 1) (k_.heap hb160 id)) (k := ?_)
          refine WQ.op (d := 96) (.slice A as_.length ca) (k := ?_)
          refine WQ.op (d := 97) (.int .i64 i) (k := ?_)
          obtain ⟨b175, o176, r177, hr178, hA179, he180⟩ := SlAt.at hA (i := i) (by omega) (by omega)
          refine WQ.rw (t := 96) (v := .slice (some ⟨b175, o176, none⟩) as_.length ca) (congrArg (fun a => Value.slice a as_.length ca) hA179) (k := ?_)
          have ll181 := hAm _ (List.mem_of_getElem? hr178)
          refine WQ.idx (T := 44) (E := 9) (m := 1) (b := b175) (o := o176) (len := as_.length) (cap := ca) (i := i) (kk := .i64) (d := 98) (by omega) (by omega) (k := ?_)
          refine WQ.rw (t := 96) (v := .slice A as_.length ca) (congrArg (fun a => Value.slice a as_.length ca) (Eq.symm hA179)) (k := ?_)
          refine WQ.load (v := .string ⟨(r177).toArray⟩) (fun w_ k_ => ((he180.adds K).adds k_).ld0 (T := 9)) (k := ?_)
          refine WQ.callG (d := 100) (f := 41) (args := #[.string ⟨(r177).toArray⟩, .int .i64 86]) (v := .string ⟨(List.take 86 r177).toArray⟩) (fun w_ k_ => l06short_c r177 86 (by omega) (by omega) w_) addsR (k := ?_)
          refine WQ.opE (d := 101) (.bool !(ByteArray.toList ⟨(List.take 86 r47).toArray⟩ == ByteArray.toList ⟨(List.take 86 r177).toArray⟩)) (v := .bool (!(decide (List.take 86 r47 = List.take 86 r177)))) (str_neq _ _) (k := ?_)
          refine WQ.op (d := 102) (.bool (!(decide (List.take 86 r47 = List.take 86 r177)))) (k := ?_)
          refine WQ.op (d := 103) (.bool (!(decide (List.take 86 r47 = List.take 86 r177)))) (k := ?_)
          refine bsplit (!(decide (List.take 86 r47 = List.take 86 r177))) (fun h182 => ?_) (fun h182 => ?_)
          · have h183 : (decide (List.take 86 r47 = List.take 86 r177)) = false := Bool.not_inj (y := false) h182
            have ph183 := of_decide_eq_false h183
            refine WQ.rw (t := 103) (v := .bool true) (congrArg Value.bool h182) (k := ?_)
            refine WQ.skip (d := 104) (k := ?_)
            refine WQ.skip (d := 105) (k := ?_)
            refine WQ.skip (d := 106) (k := ?_)
            refine WQ.skip (d := 107) (k := ?_)
            refine WQ.op (d := 108) (.bool true) (k := ?_)
            refine WQ.op (d := 109) (.bool true) (k := ?_)
            refine WQ.skip (d := 110) (k := ?_)
            refine WQ.skip (d := 111) (k := ?_)
            refine WQ.op (d := 112) (.bool true) (k := ?_)
            refine WQ.nilX (fun w184 k185 => ?_)
            replace hd147 := hd147.adds k185
            replace hb146 := k185.heap hb146 id
            replace hb42 := k185.heap hb42 id
            replace hb160 := k185.heap hb160 id
            replace hb165 := k185.heap hb165 id
            replace K := K.trans (k185.any _)
            refine WX.seqN ?_
            refine WC.condT (k := ?_)
            refine WC.seq ?_
            refine WC.region ?_
            refine WL.op (d := 2) (.bool false) (k := ?_)
            refine WL.nil ?_
            refine WX.seqN ?_
            refine WC.ret ?_
            refine WX.seqR ?_
            refine WX.blockR ?_
            refine WX.seqR ?_
            refine WX.seqR ?_
            refine WX.blockR ?_
            refine WX.seqR ?_
            refine WX.ret (rs := [.tmp 2]) [.bool false] (.bool false) ⟨(by kernel_rfl), trivial⟩ (k := ?_)
            exact absurd (congrArg (List.take 86) (Option.some.inj (hr48.symm.trans hr178))) ph183
          · have h186 : (decide (List.take 86 r47 = List.take 86 r177)) = true := Bool.not_inj (y := true) h182
            have ph186 := of_decide_eq_true h186
            refine WQ.rw (t := 103) (v := .bool false) (congrArg Value.bool h182) (k := ?_)
            refine WQ.op (d := 104) (.pointer (some ⟨b14, 0, none⟩)) (k := ?_)
            refine WQ.callG (d := 105) (f := 42) (args := #[.pointer (some ⟨b14, 0, none⟩)]) (v := .int .u64 ((nw + 1 : Nat) : Int)) (fun w_ k_ => svNewest_b (nw := nw + 1) (k_.heap hb146 id)) addsR (k := ?_)
            refine WQ.op (d := 106) (.int .u64 ((nw + 1 : Nat) : Int)) (k := ?_)
            refine WQ.opE (d := 107) (.bool (((nw + 1 : Nat) : Int) != ((nw + 1 : Nat) : Int))) (v := .bool false) (congrArg Value.bool (bne_self_eq_false _)) (k := ?_)
            refine WQ.op (d := 108) (.bool false) (k := ?_)
            refine WQ.op (d := 109) (.bool false) (k := ?_)
            refine WQ.op (d := 110) (.pointer (some ⟨b163, 0, none⟩)) (k := ?_)
            refine WQ.op (d := 111) (.bool false) (k := ?_)
            refine WQ.op (d := 112) (.bool false) (k := ?_)
            refine WQ.nilX (fun w187 k188 => ?_)
            replace hd147 := hd147.adds k188
            replace hb146 := k188.heap hb146 id
            replace hb42 := k188.heap hb42 id
            replace hb160 := k188.heap hb160 id
            replace hb165 := k188.heap hb165 id
            replace K := K.trans (k188.any _)
            refine WX.seqN ?_
            refine WC.condF (k := ?_)
            refine WC.skip ?_
            refine WX.seqN ?_
            refine WC.seq ?_
            refine WC.region ?_
            refine WL.op (d := 114) (.pointer (some ⟨b4, 0, none⟩)) (k := ?_)
            refine WL.op (d := 115) (.int .i64 i) (k := ?_)
            refine WL.bin (d := 116) (v := .int .i64 (bits BinOp.and IntKind.i64 i 1)) (bits_run (by decide)) (k := ?_)
            refine WL.rw (t := 116) (v := .int .i64 0) (congrArg (Value.int .i64) ((and1_eq (by omega)).trans (by omega))) (k := ?_)
            refine WL.op (d := 117) (.int .i64 0) (k := ?_)
            refine WL.callG (d := 118) (f := 43) (args := #[.pointer (some ⟨b4, 0, none⟩), .int .i64 0]) (dRead_duo (a := 0) hd147 (by decide) (by decide) (duo_get0 (by omega))) (k := fun e_ w189 h_ => ?_)
            obtain ⟨rd190, rfl, hd191, k192⟩ := h_
            refine ⟨_, rfl, ?_⟩
            replace hb146 := k192.heap hb146 n139
            replace hb42 := k192.heap hb42 n141
            replace hb160 := k192.heap hb160 n156
            replace hb165 := k192.heap hb165 n168
            replace K := K.trans' k192 (fun i hi e => (lk142 i e).elim (fun h => h.elim) (fun h => absurd hi (Nat.not_lt.2 h)))
            clear hd147
            have pl_ : (putX (chunks (List.take 86 r47)) (nw + 1) 0).length = 64 := put_lenc
            have pe_ : tgE (putX (chunks (List.take 86 r47)) (nw + 1) 0) = nw + 1 := tgE_put (by omega)
            refine WL.op (d := 113) (.tuple #[.string ⟨(putX (chunks (List.take 86 r47)) (nw + 1) 0).toArray⟩, .int .i64 0]) (k := ?_)
            refine WL.op (d := 119) (.string ⟨(putX (chunks (List.take 86 r47)) (nw + 1) 0).toArray⟩) (k := ?_)
            refine WL.op (d := 120) (.int .i64 0) (k := ?_)
            refine WL.op (d := 16) (.string ⟨(putX (chunks (List.take 86 r47)) (nw + 1) 0).toArray⟩) (k := ?_)
            refine WL.op (d := 17) (.int .i64 0) (k := ?_)
            refine WL.nil ?_
            refine WX.seqN ?_
            refine WC.seq ?_
            refine WC.region ?_
            refine WL.op (d := 121) (.string ⟨(putX (chunks (List.take 86 r47)) (nw + 1) 0).toArray⟩) (k := ?_)
            refine WL.callG (d := 122) (f := 20) (args := #[.string ⟨(putX (chunks (List.take 86 r47)) (nw + 1) 0).toArray⟩]) (u04Tag_c (l := putX (chunks (List.take 86 r47)) (nw + 1) 0) (by show List.length (putX (chunks (List.take 86 r47)) (nw + 1) 0) ≤ _; first | omega | (simp; done) | (simp; omega)) w189) (k := fun e_ w195 h_ => ⟨.agg #[.int .u64 ((tgE (putX (chunks (List.take 86 r47)) (nw + 1) 0) : Nat) : Int), .int .u64 ((tgN (putX (chunks (List.take 86 r47)) (nw + 1) 0) : Nat) : Int), .bool (decide (List.length (putX (chunks (List.take 86 r47)) (nw + 1) 0) = 64))], h_.1, ?_⟩)
            have k196 := h_.2; clear h_
            replace hd191 := hd191.adds k196
            replace hb146 := k196.heap hb146 id
            replace hb42 := k196.heap hb42 id
            replace hb160 := k196.heap hb160 id
            replace hb165 := k196.heap hb165 id
            replace K := K.trans (k196.any _)
            have te193 := tgE_lt (putX (chunks (List.take 86 r47)) (nw + 1) 0)
            have te194 := tgN_lt (putX (chunks (List.take 86 r47)) (nw + 1) 0)
            refine WL.new (d := 18) (T := 37) #[.int .u64 0, .int .u64 0, .bool false] (k := fun b197 w198 g199 hb200 k201 => ?_)
            have z202 := Nat.le_trans K.size g199
            have n203 : ¬ S135 b197 := fun h => absurd (hd191.lt _ h) (Nat.not_lt.2 g199)
            have n204 : b14 ≠ b197 := Nat.ne_of_lt (Nat.lt_of_lt_of_le (lt_of_heap hb146) g199)
            have n205 : b25 ≠ b197 := Nat.ne_of_lt (Nat.lt_of_lt_of_le (lt_of_heap hb42) g199)
            have n206 : b150 ≠ b197 := Nat.ne_of_lt (Nat.lt_of_lt_of_le (lt_of_heap hb160) g199)
            have n207 : b163 ≠ b197 := Nat.ne_of_lt (Nat.lt_of_lt_of_le (lt_of_heap hb165) g199)
            replace hd191 := hd191.adds k201
            replace hb146 := k201.heap hb146 id
            replace hb42 := k201.heap hb42 id
            replace hb160 := k201.heap hb160 id
            replace hb165 := k201.heap hb165 id
            replace K := K.trans (k201.any _)
            refine WL.store (v := .agg #[.int .u64 ((tgE (putX (chunks (List.take 86 r47)) (nw + 1) 0) : Nat) : Int), .int .u64 ((tgN (putX (chunks (List.take 86 r47)) (nw + 1) 0) : Nat) : Int), .bool (decide (List.length (putX (chunks (List.take 86 r47)) (nw + 1) 0) = 64))]) (i := 0) (cs' := #[.int .u64 ((tgE (putX (chunks (List.take 86 r47)) (nw + 1) 0) : Nat) : Int), .int .u64 ((tgN (putX (chunks (List.take 86 r47)) (nw + 1) 0) : Nat) : Int), .bool (decide (List.length (putX (chunks (List.take 86 r47)) (nw + 1) 0) = 64))]) hb200 (k := fun w208 hb209 k210 => ?_)
            replace hd191 := hd191.keeps k210 (fun i hi e => n203 (e ▸ hi))
            replace hb146 := k210.heap hb146 n204
            replace hb42 := k210.heap hb42 n205
            replace hb160 := k210.heap hb160 n206
            replace hb165 := k210.heap hb165 n207
            replace K := K.trans' k210 (fun i hi e => absurd (e ▸ hi) (Nat.not_lt.2 z202))
            clear hb200
            refine WL.nil ?_
            refine WX.seqN ?_
            refine WC.seq ?_
            refine WC.region ?_
            refine WL.op (d := 123) (.int .i64 0) (k := ?_)
            refine WL.op (d := 124) (.bool false) (k := ?_)
            refine WL.op (d := 125) (.bool false) (k := ?_)
            refine WL.op (d := 126) (.pointer (some ⟨b197, 0, none⟩)) (k := ?_)
            refine WL.load (v := .int .u64 ((tgE (putX (chunks (List.take 86 r47)) (nw + 1) 0) : Nat) : Int)) (ld1 (T := 22) (i := 0) hb209) (k := ?_)
            refine WL.op (d := 128) (.int .u64 ((nw + 1 : Nat) : Int)) (k := ?_)
            refine WL.op (d := 129) (.bool (((tgE (putX (chunks (List.take 86 r47)) (nw + 1) 0) : Nat) : Int) != ((nw + 1 : Nat) : Int))) (k := ?_)
            refine WL.op (d := 130) (.bool (((tgE (putX (chunks (List.take 86 r47)) (nw + 1) 0) : Nat) : Int) != ((nw + 1 : Nat) : Int))) (k := ?_)
            refine WL.nil ?_
            refine WX.seqN ?_
            refine WC.cond (b := ((tgE (putX (chunks (List.take 86 r47)) (nw + 1) 0) : Nat) : Int) != ((nw + 1 : Nat) : Int)) (ht := fun h211 => ?_) (hf := fun h211 => ?_)
            · have ph211 := bne_iff_ne.1 h211
              refine WC.seq ?_
              refine WC.region ?_
              refine WL.op (d := 2) (.bool false) (k := ?_)
              refine WL.nil ?_
              refine WX.seqN ?_
              refine WC.ret ?_
              refine WX.blockR ?_
              refine WX.seqR ?_
              refine WX.seqR ?_
              refine WX.blockR ?_
              refine WX.seqR ?_
              refine WX.ret (rs := [.tmp 2]) [.bool false] (.bool false) ⟨(by kernel_rfl), trivial⟩ (k := ?_)
              exfalso; omega
            · have ph211 := of_bne_false h211
              refine WC.skip ?_
              refine WX.blockN ?_
              refine WX.seqN ?_
              refine WC.region ?_
              refine WL.op (d := 50) (.int .i64 i) (k := ?_)
              refine WL.opE (d := 51) (.int .i64 (IntKind.i64.wrap (i + 1))) (v := .int .i64 (i + 1)) (congrArg (Value.int .i64) (IntWalk.i64_in _ (by omega))) (k := ?_)
              refine WL.op (d := 9) (.int .i64 (i + 1)) (k := ?_)
              refine WL.nil ?_
              refine WX.round (i + 1, nw + 1, List.take 86 r47, e1, t1, nw + 1, 0, rd190, S135) (by show (12 - (i + 1)).toNat < (12 - i).toNat; omega) ⟨(by kernel_rfl), (by kernel_rfl), (by kernel_rfl), (by kernel_rfl), (by kernel_rfl), (by kernel_rfl), (by kernel_rfl), (by kernel_rfl), (by kernel_rfl), (by kernel_rfl), (by kernel_rfl), (by kernel_rfl), (by kernel_rfl), (by kernel_rfl), (by kernel_rfl), (by kernel_rfl), (by kernel_rfl), (by kernel_rfl), (by kernel_rfl), (by kernel_rfl), (by kernel_rfl), (by kernel_rfl), (by kernel_rfl), (by kernel_rfl), (by kernel_rfl), (by kernel_rfl), (by kernel_rfl), (by kernel_rfl), (by kernel_rfl), trivial⟩ ⟨K, hd191, lk142, n139, n141, hb146, hb42, (by omega), (by omega), (by omega), ok143, o1, (by omega), (by omega), (by omega)⟩
    · have ph44 := of_decide_eq_false h44
      refine WC.exit ?_
      refine WX.seqE ?_
      refine WX.seqE ?_
      refine WX.blockE ?_
      refine WX.seqN ?_
      refine WC.seq ?_
      refine WC.region ?_
      refine WL.op (d := 132) (.pointer (some ⟨b14, 0, none⟩)) (k := ?_)
      refine WL.newF (d := 133) (T := 5) (List.replicate 87 (Value.int .u8 0)).toArray (fun b => .slice (some ⟨b, 0, none⟩) 87 87) (k := fun b212 w213 g214 hb215 k216 => ?_)
      have z219 := Nat.le_trans K.size g214
      have n220 : ¬ Si b212 := fun h => absurd (hb37.lt _ h) (Nat.not_lt.2 g214)
      have n221 : b14 ≠ b212 := Nat.ne_of_lt (Nat.lt_of_lt_of_le (lt_of_heap hb41) g214)
      have n222 : b25 ≠ b212 := Nat.ne_of_lt (Nat.lt_of_lt_of_le (lt_of_heap hb42) g214)
      replace hb37 := hb37.adds k216
      replace hb41 := k216.heap hb41 id
      replace hb42 := k216.heap hb42 id
      replace K := K.trans (k216.any _)
      have ho217 := OwAt.made (N := 87) hb215 (by decide)
      have ol218 : ∀ i, blk (some ⟨b212, 0, none⟩) = some i → w.heap.size ≤ i := fun i e => by cases e; exact z219
      refine WL.conv (d := 134) (vx := .slice (some ⟨b212, 0, none⟩) 87 87) (v := .string ⟨(List.replicate 87 0).toArray⟩) (ofBytesSl (n := 87) (ho217.sl ekU8) (by first | rfl | omega | (simp; omega))) (k := ?_)
      refine WL.callG (d := 135) (f := 38) (args := #[.pointer (some ⟨b14, 0, none⟩), .string ⟨(List.replicate 87 0).toArray⟩]) (svWrite_long (l := List.replicate 87 0) (nw := nw) (v3 := true) hb41 (by decide) (by decide) (by simp)) (k := fun e_ w223 h_ => ⟨.tuple #[.int .u64 0, .int .i64 1], h_.1, ?_⟩)
      have k224 := h_.2; clear h_
      replace hb37 := hb37.adds k224
      replace hb41 := k224.heap hb41 id
      replace hb42 := k224.heap hb42 id
      replace ho217 := ho217.adds k224
      replace K := K.trans (k224.any _)
      refine WL.op (d := 131) (.tuple #[.int .u64 0, .int .i64 1]) (k := ?_)
      refine WL.op (d := 136) (.int .u64 0) (k := ?_)
      refine WL.op (d := 137) (.int .i64 1) (k := ?_)
      refine WL.op (d := 19) (.int .u64 0) (k := ?_)
      refine WL.op (d := 20) (.int .i64 1) (k := ?_)
      refine WL.nil ?_
      refine WX.seqN ?_
      refine WC.seq ?_
      refine WC.region ?_
      refine WL.op (d := 138) (.bool true) (k := ?_)
      refine WL.op (d := 139) (.bool true) (k := ?_)
      refine WL.op (d := 140) (.int .i64 1) (k := ?_)
      refine WL.op (d := 141) (.bool true) (k := ?_)
      refine WL.op (d := 142) (.bool true) (k := ?_)
      refine WL.op (d := 2) (.bool true) (k := ?_)
      refine WL.nil ?_
      refine WX.seqN ?_
      refine WC.ret ?_
      refine WX.ret (rs := [.tmp 2]) [.bool true] (.bool true) ⟨(by kernel_rfl), trivial⟩ (k := ?_)
      exact ⟨rfl, K⟩
  · have ph43 := of_decide_eq_false h43
    refine WL.rw (t := 46) (v := .bool false) (congrArg Value.bool h43) (k := ?_)
    refine WL.skip (d := 47) (k := ?_)
    refine WL.skip (d := 48) (k := ?_)
    refine WL.op (d := 49) (.bool false) (k := ?_)
    refine WL.nil ?_
    refine WX.seqN ?_
    refine WC.condF (k := ?_)
    refine WC.exit ?_
    refine WX.seqE ?_
    refine WX.seqE ?_
    refine WX.blockE ?_
    refine WX.seqN ?_
    refine WC.seq ?_
    refine WC.region ?_
    refine WL.op (d := 132) (.pointer (some ⟨b14, 0, none⟩)) (k := ?_)
    refine WL.newF (d := 133) (T := 5) (List.replicate 87 (Value.int .u8 0)).toArray (fun b => .slice (some ⟨b, 0, none⟩) 87 87) (k := fun b225 w226 g227 hb228 k229 => ?_)
    have z232 := Nat.le_trans K.size g227
    have n233 : ¬ Si b225 := fun h => absurd (hb37.lt _ h) (Nat.not_lt.2 g227)
    have n234 : b14 ≠ b225 := Nat.ne_of_lt (Nat.lt_of_lt_of_le (lt_of_heap hb41) g227)
    have n235 : b25 ≠ b225 := Nat.ne_of_lt (Nat.lt_of_lt_of_le (lt_of_heap hb42) g227)
    replace hb37 := hb37.adds k229
    replace hb41 := k229.heap hb41 id
    replace hb42 := k229.heap hb42 id
    replace K := K.trans (k229.any _)
    have ho230 := OwAt.made (N := 87) hb228 (by decide)
    have ol231 : ∀ i, blk (some ⟨b225, 0, none⟩) = some i → w.heap.size ≤ i := fun i e => by cases e; exact z232
    refine WL.conv (d := 134) (vx := .slice (some ⟨b225, 0, none⟩) 87 87) (v := .string ⟨(List.replicate 87 0).toArray⟩) (ofBytesSl (n := 87) (ho230.sl ekU8) (by first | rfl | omega | (simp; omega))) (k := ?_)
    refine WL.callG (d := 135) (f := 38) (args := #[.pointer (some ⟨b14, 0, none⟩), .string ⟨(List.replicate 87 0).toArray⟩]) (svWrite_long (l := List.replicate 87 0) (nw := nw) (v3 := true) hb41 (by decide) (by decide) (by simp)) (k := fun e_ w236 h_ => ⟨.tuple #[.int .u64 0, .int .i64 1], h_.1, ?_⟩)
    have k237 := h_.2; clear h_
    replace hb37 := hb37.adds k237
    replace hb41 := k237.heap hb41 id
    replace hb42 := k237.heap hb42 id
    replace ho230 := ho230.adds k237
    replace K := K.trans (k237.any _)
    refine WL.op (d := 131) (.tuple #[.int .u64 0, .int .i64 1]) (k := ?_)
    refine WL.op (d := 136) (.int .u64 0) (k := ?_)
    refine WL.op (d := 137) (.int .i64 1) (k := ?_)
    refine WL.op (d := 19) (.int .u64 0) (k := ?_)
    refine WL.op (d := 20) (.int .i64 1) (k := ?_)
    refine WL.nil ?_
    refine WX.seqN ?_
    refine WC.seq ?_
    refine WC.region ?_
    refine WL.op (d := 138) (.bool true) (k := ?_)
    refine WL.op (d := 139) (.bool true) (k := ?_)
    refine WL.op (d := 140) (.int .i64 1) (k := ?_)
    refine WL.op (d := 141) (.bool true) (k := ?_)
    refine WL.op (d := 142) (.bool true) (k := ?_)
    refine WL.op (d := 2) (.bool true) (k := ?_)
    refine WL.nil ?_
    refine WX.seqN ?_
    refine WC.ret ?_
    refine WX.ret (rs := [.tmp 2]) [.bool true] (.bool true) ⟨(by kernel_rfl), trivial⟩ (k := ?_)
    exact ⟨rfl, K⟩

theorem dFail_pos {S : Nat → Prop} {dk : Nat} {sc : List (List UInt8)} {opn : List (Int × List UInt8)} {f0 rd f : Int} {w : World} (hd : DiskAt S dk ⟨sc, opn, f0, rd⟩ w) (h0 : 0 ≤ f) (h1 : f ≤ 9223372036854775807) : Calls Tryd.prog 40 #[.pointer (some ⟨dk, 0, none⟩), .int .i64 f] w fun e w' => e = .returned (.tuple #[]) ∧ DiskAt S dk ⟨sc, opn, f, rd⟩ w' ∧ Keeps S w w' := by
  refine (dFail_c (n := f) (by omega) hd).mono ?_
  rintro e w' ⟨g1, g2, g3⟩
  have : GDisk.failD ⟨sc, opn, f0, rd⟩ f = ⟨sc, opn, f, rd⟩ := by unfold GDisk.failD; rw [if_neg (by omega)]
  rw [this] at g2
  exact ⟨g1, g2, g3⟩

set_option maxRecDepth 100000 in
set_option maxHeartbeats 4000000 in
theorem lSlotsState_c (n : Int) (w : World) : Calls Tryd.prog 11 #[.int .i64 n] w fun e w' => e = .returned (.bool true) ∧ Adds w w' := by
  have K : Keeps (fun _ => False) w w := Keeps.refl _ w
  refine Calls.start Tryd.func11 rfl (by kernel_rfl) ?_
  refine WC.seq ?_
  refine WC.region ?_
  refine WL.op (d := 2) (.bool false) (k := ?_)
  refine WL.nil ?_
  refine WX.seqN ?_
  refine WC.seq ?_
  refine WC.region ?_
  refine WL.callG (d := 20) (f := 36) (args := #[]) (l06awake_c w) (k := fun e_ w1 h_ => ⟨.bool true, h_.1, ?_⟩)
  have k2 := h_.2; clear h_
  replace K := K.trans (k2.any _)
  refine WL.op (d := 3) (.bool true) (k := ?_)
  refine WL.nil ?_
  refine WX.seqN ?_
  refine WC.seq ?_
  refine WC.region ?_
  refine WL.callG (d := 21) (f := 28) (args := #[.int .i64 4]) (dNew_ok (n := 4) (by omega) (by omega) w1) (k := fun e_ w3 h_ => ?_)
  obtain ⟨b4, S5, rfl, g6, hd7, ho8, k9⟩ := h_
  refine ⟨_, rfl, ?_⟩
  have lk10 : ∀ k, S5 k → False ∨ w.heap.size ≤ k := fun k h => .inr (Nat.le_trans K.size (ho8 k h))
  have z11 := Nat.le_trans K.size g6
  replace K := K.trans (k9.any _)
  change DiskAt S5 b4 (⟨duo 0 [] 0 [], [], 0, 0⟩ : GDisk) w3 at hd7
  have ln12 : (GDisk.secs (⟨duo 0 [] 0 [], [], 0, 0⟩ : GDisk)).length = 4 := rfl
  refine WL.op (d := 4) (.pointer (some ⟨b4, 0, none⟩)) (k := ?_)
  refine WL.nil ?_
  refine WX.seqN ?_
  refine WC.seq ?_
  refine WC.region ?_
  refine WL.op (d := 22) (.pointer (some ⟨b4, 0, none⟩)) (k := ?_)
  refine WL.callG (d := 23) (f := 37) (args := #[.pointer (some ⟨b4, 0, none⟩), .int .i64 0, .int .i64 2]) (svNew_ok (at_ := 0) (k := 2) hd7 (by omega) (by omega) ⟨by decide, by decide, by decide, by show (0 : Int) ≤ ((duo 0 [] 0 []).length : Int) - 2 * 2; rw [duo_len]; decide⟩) (k := fun e_ w13 h_ => ?_)
  obtain ⟨b14, rfl, g15, hb16, k17⟩ := h_
  refine ⟨_, rfl, ?_⟩
  have z18 := Nat.le_trans K.size g15
  have n19 : ¬ S5 b14 := fun h => absurd (hd7.lt _ h) (Nat.not_lt.2 g15)
  replace hd7 := hd7.adds k17
  replace K := K.trans (k17.any _)
  refine WL.op (d := 5) (.pointer (some ⟨b14, 0, none⟩)) (k := ?_)
  refine WL.nil ?_
  refine WX.seqN ?_
  refine WC.seq ?_
  refine WC.seq ?_
  refine WC.region ?_
  refine WL.op (d := 24) (.pointer (some ⟨b4, 0, none⟩)) (k := ?_)
  refine WL.op (d := 25) (.bool false) (k := ?_)
  refine WL.op (d := 26) (.bool false) (k := ?_)
  refine WL.op (d := 27) (.pointer (some ⟨b14, 0, none⟩)) (k := ?_)
  refine WL.op (d := 28) (.bool false) (k := ?_)
  refine WL.op (d := 29) (.bool false) (k := ?_)
  refine WL.nil ?_
  refine WX.seqN ?_
  refine WC.condF (k := ?_)
  refine WC.skip ?_
  refine WX.seqN ?_
  refine WC.seq ?_
  refine WC.region ?_
  refine WL.op (d := 31) (.pointer (some ⟨b14, 0, none⟩)) (k := ?_)
  refine WL.callG (d := 32) (f := 38) (args := #[.pointer (some ⟨b14, 0, none⟩), .string ⟨#[120]⟩]) (svWrite_state (l := [120]) (nw := 0) hb16 (by decide) (by decide) (by simp)) (k := fun e_ w20 h_ => ⟨.tuple #[.int .u64 0, .int .i64 13], h_.1, ?_⟩)
  have k21 := h_.2; clear h_
  replace hd7 := hd7.adds k21
  replace hb16 := k21.heap hb16 id
  replace K := K.trans (k21.any _)
  refine WL.op (d := 30) (.tuple #[.int .u64 0, .int .i64 13]) (k := ?_)
  refine WL.op (d := 33) (.int .u64 0) (k := ?_)
  refine WL.op (d := 34) (.int .i64 13) (k := ?_)
  refine WL.op (d := 6) (.int .u64 0) (k := ?_)
  refine WL.op (d := 7) (.int .i64 13) (k := ?_)
  refine WL.nil ?_
  refine WX.seqN ?_
  refine WC.seq ?_
  refine WC.region ?_
  refine WL.op (d := 35) (.pointer (some ⟨b14, 0, none⟩)) (k := ?_)
  refine WL.callG (d := 36) (f := 39) (args := #[.pointer (some ⟨b14, 0, none⟩)]) (svRead_none hb16 hd7 n19) (k := fun e_ w22 h_ => ?_)
  obtain ⟨rd23, rfl, hb24, hd25, k26⟩ := h_
  refine ⟨_, rfl, ?_⟩
  replace K := K.trans' k26 (fun i hi e => e.elim (fun e => absurd (e ▸ hi) (Nat.not_lt.2 z18)) (fun e => (lk10 i e).elim (fun h => h.elim) (fun h => absurd hi (Nat.not_lt.2 h))))
  clear hb16 hd7
  refine WL.nil ?_
  refine WX.seqN ?_
  refine WC.seq ?_
  refine WC.region ?_
  refine WL.op (d := 37) (.pointer (some ⟨b4, 0, none⟩)) (k := ?_)
  refine WL.op (d := 38) (.int .i64 n) (k := ?_)
  refine WL.bin (d := 39) (v := .int .i64 (Int.tmod n 3)) (rem_run (by omega)) (k := ?_)
  have m27 := tmod_rng n 3 (by omega)
  obtain ⟨r28, e29⟩ : ∃ r : Int, Int.tmod n 3 = r := ⟨_, rfl⟩
  rw [e29] at m27
  refine WL.rw (t := 39) (v := .int .i64 r28) (congrArg (Value.int .i64) e29) (k := ?_)
  refine WL.opE (d := 40) (.int .i64 (IntKind.i64.wrap (r28 + 3))) (v := .int .i64 (r28 + 3)) (congrArg (Value.int .i64) (IntWalk.i64_in _ (by omega))) (k := ?_)
  refine WL.bin (d := 41) (v := .int .i64 (Int.tmod (r28 + 3) 3)) (rem_run (by omega)) (k := ?_)
  have m30 := tmod_rng (r28 + 3) 3 (by omega)
  obtain ⟨r31, e32⟩ : ∃ r : Int, Int.tmod (r28 + 3) 3 = r := ⟨_, rfl⟩
  rw [e32] at m30
  refine WL.rw (t := 41) (v := .int .i64 r31) (congrArg (Value.int .i64) e32) (k := ?_)
  refine WL.opE (d := 42) (.int .i64 (IntKind.i64.wrap (1 + r31))) (v := .int .i64 (1 + r31)) (congrArg (Value.int .i64) (IntWalk.i64_in _ (by omega))) (k := ?_)
  refine WL.callG (d := 43) (f := 40) (args := #[.pointer (some ⟨b4, 0, none⟩), .int .i64 (1 + r31)]) (dFail_pos (f := 1 + r31) hd25 (by omega) (by omega)) (k := fun e_ w33 h_ => ?_)
  obtain ⟨rfl, hd34, k35⟩ := h_
  refine ⟨_, rfl, ?_⟩
  replace hb24 := k35.heap hb24 n19
  replace K := K.trans' k35 (fun i hi e => (lk10 i e).elim (fun h => h.elim) (fun h => absurd hi (Nat.not_lt.2 h)))
  clear hd25
  refine WL.nil ?_
  refine WX.seqN ?_
  refine WC.seq ?_
  refine WC.region ?_
  refine WL.op (d := 45) (.pointer (some ⟨b14, 0, none⟩)) (k := ?_)
  refine WL.callG (d := 46) (f := 38) (args := #[.pointer (some ⟨b14, 0, none⟩), .string ⟨#[121]⟩]) (svWrite_fail (l := [121]) (nw := 0) (f := (1 + r31)) (opn' := opnY (1 + r31)) hb24 hd34 n19 (by omega) (by omega) (by decide) (by decide) (by decide) (by decide) (by decide) (by simp) (by decide) (by decide) rfl) (k := fun e_ w36 h_ => ?_)
  obtain ⟨S37, rfl, hb38, hd39, lk40, n41, k42⟩ := h_
  refine ⟨_, rfl, ?_⟩
  have lk43 := lk_step lk10 lk40 K
  replace K := K.trans' k42 (fun i hi e => e.elim (fun e => absurd (e ▸ hi) (Nat.not_lt.2 z18)) (fun e => (lk10 i e).elim (fun h => h.elim) (fun h => absurd hi (Nat.not_lt.2 h))))
  clear hb24 hd34
  obtain ⟨E_, T_, L_, N_, e0_, t0_, e1_, t1_, hT_, hN_, hW_, o0_, o1_, hc_⟩ := sv_state (f := (1 + r31)) (rd := rd23) (by omega) (by omega)
  refine WL.op (d := 44) (.tuple #[.int .u64 0, .int .i64 18]) (k := ?_)
  refine WL.op (d := 47) (.int .u64 0) (k := ?_)
  refine WL.op (d := 48) (.int .i64 18) (k := ?_)
  refine WL.op (d := 8) (.int .u64 0) (k := ?_)
  refine WL.op (d := 9) (.int .i64 18) (k := ?_)
  refine WL.nil ?_
  refine WX.seqN ?_
  refine WC.seq ?_
  refine WC.region ?_
  refine WL.op (d := 50) (.pointer (some ⟨b14, 0, none⟩)) (k := ?_)
  refine WL.callG (d := 51) (f := 38) (args := #[.pointer (some ⟨b14, 0, none⟩), .string ⟨#[122]⟩]) (svWrite_state (l := [122]) (nw := 0 + 1) hb38 (by decide) (by decide) (by simp)) (k := fun e_ w44 h_ => ⟨.tuple #[.int .u64 0, .int .i64 13], h_.1, ?_⟩)
  have k45 := h_.2; clear h_
  replace hd39 := hd39.adds k45
  replace hb38 := k45.heap hb38 id
  replace K := K.trans (k45.any _)
  refine WL.op (d := 49) (.tuple #[.int .u64 0, .int .i64 13]) (k := ?_)
  refine WL.op (d := 52) (.int .u64 0) (k := ?_)
  refine WL.op (d := 53) (.int .i64 13) (k := ?_)
  refine WL.op (d := 10) (.int .u64 0) (k := ?_)
  refine WL.op (d := 11) (.int .i64 13) (k := ?_)
  refine WL.nil ?_
  refine WX.seqN ?_
  refine WC.seq ?_
  refine WC.region ?_
  refine WL.op (d := 55) (.pointer (some ⟨b14, 0, none⟩)) (k := ?_)
  refine WL.callG (d := 56) (f := 39) (args := #[.pointer (some ⟨b14, 0, none⟩)]) (svRead_calm hb38 hd39 n41 (by decide) (by decide) (by decide) (by decide) (by decide) rfl rfl hT_) (k := fun e_ w46 h_ => ?_)
  obtain ⟨rd47, rfl, hb48, hd49, k50⟩ := h_
  refine ⟨_, rfl, ?_⟩
  replace K := K.trans' k50 (fun i hi e => e.elim (fun e => absurd (e ▸ hi) (Nat.not_lt.2 z18)) (fun e => (lk43 i e).elim (fun h => h.elim) (fun h => absurd hi (Nat.not_lt.2 h))))
  clear hb38 hd39
  refine WL.op (d := 54) (.tuple #[.agg #[.int .u64 ((E_ : Nat) : Int), .string ⟨(T_).toArray⟩], .bool (decide (¬ E_ = 0)), .int .i64 0]) (k := ?_)
  refine WL.op (d := 57) (.agg #[.int .u64 ((E_ : Nat) : Int), .string ⟨(T_).toArray⟩]) (k := ?_)
  refine WL.op (d := 58) (.bool (decide (¬ E_ = 0))) (k := ?_)
  refine WL.op (d := 59) (.int .i64 0) (k := ?_)
  refine WL.new (d := 12) (T := 64) #[.int .u64 0, .string ⟨#[]⟩] (k := fun b51 w52 g53 hb54 k55 => ?_)
  have z56 := Nat.le_trans K.size g53
  have n57 : ¬ S37 b51 := fun h => absurd (hd49.lt _ h) (Nat.not_lt.2 g53)
  have n58 : b14 ≠ b51 := Nat.ne_of_lt (Nat.lt_of_lt_of_le (lt_of_heap hb48) g53)
  replace hd49 := hd49.adds k55
  replace hb48 := k55.heap hb48 id
  replace K := K.trans (k55.any _)
  refine WL.store (v := .agg #[.int .u64 ((E_ : Nat) : Int), .string ⟨(T_).toArray⟩]) (i := 0) (cs' := #[.int .u64 ((E_ : Nat) : Int), .string ⟨(T_).toArray⟩]) hb54 (k := fun w59 hb60 k61 => ?_)
  replace hd49 := hd49.keeps k61 (fun i hi e => n57 (e ▸ hi))
  replace hb48 := k61.heap hb48 n58
  replace K := K.trans' k61 (fun i hi e => absurd (e ▸ hi) (Nat.not_lt.2 z56))
  clear hb54
  refine WL.op (d := 13) (.bool (decide (¬ E_ = 0))) (k := ?_)
  refine WL.op (d := 14) (.int .i64 0) (k := ?_)
  refine WL.nil ?_
  refine WX.seqN ?_
  refine WC.seq ?_
  refine WC.region ?_
  refine WL.op (d := 61) (.pointer (some ⟨b14, 0, none⟩)) (k := ?_)
  refine WL.callG (d := 62) (f := 38) (args := #[.pointer (some ⟨b14, 0, none⟩), .string ⟨#[122]⟩]) (svWrite_calm (l := [122]) (nw := N_) (la := L_) (sc' := duo e0_ t0_ e1_ t1_) hb48 hd49 n41 (by decide) (by decide) (by decide) (by decide) (by decide) (by simp) (by rw [List.length_append]; simp [putsW]; omega) (by omega) hW_) (k := fun e_ w62 h_ => ?_)
  obtain ⟨S63, rfl, hb64, hd65, lk66, n67, k68⟩ := h_
  refine ⟨_, rfl, ?_⟩
  have n69 : ¬ S63 b51 := fun h => (lk66 _ h).elim n57 (fun h2 => absurd (lt_of_heap hb60) (Nat.not_lt.2 h2))
  have lk70 := lk_step lk43 lk66 K
  replace K := K.trans' k68 (fun i hi e => e.elim (fun e => absurd (e ▸ hi) (Nat.not_lt.2 z18)) (fun e => (lk43 i e).elim (fun h => h.elim) (fun h => absurd hi (Nat.not_lt.2 h))))
  replace hb60 := k68.heap hb60 (not_or.2 ⟨Ne.symm n58, n57⟩)
  clear hb48 hd49
  refine WL.op (d := 60) (.tuple #[.int .u64 ((N_ + 1 : Nat) : Int), .int .i64 0]) (k := ?_)
  refine WL.op (d := 63) (.int .u64 ((N_ + 1 : Nat) : Int)) (k := ?_)
  refine WL.op (d := 64) (.int .i64 0) (k := ?_)
  refine WL.op (d := 15) (.int .u64 ((N_ + 1 : Nat) : Int)) (k := ?_)
  refine WL.op (d := 16) (.int .i64 0) (k := ?_)
  refine WL.nil ?_
  refine WX.seqN ?_
  refine WC.seq ?_
  refine WC.region ?_
  refine WL.op (d := 66) (.pointer (some ⟨b14, 0, none⟩)) (k := ?_)
  refine bsplit (decide (L_ = 0)) (fun h71 => ?_) (fun h71 => ?_)
  · have ph71 := of_decide_eq_true h71
    obtain ⟨-, q2_, q3_, -⟩ := hc_.resolve_right (fun h => h.1 ph71)
    refine WL.callG (d := 67) (f := 39) (args := #[.pointer (some ⟨b14, 0, none⟩)]) (svRead_second hb64 hd65 n67 o0_ o1_ (by omega)) (k := fun e_ w72 h_ => ?_)
    obtain ⟨rd73, rfl, hb74, hd75, k76⟩ := h_
    refine ⟨_, rfl, ?_⟩
    replace K := K.trans' k76 (fun i hi e => e.elim (fun e => absurd (e ▸ hi) (Nat.not_lt.2 z18)) (fun e => (lk70 i e).elim (fun h => h.elim) (fun h => absurd hi (Nat.not_lt.2 h))))
    replace hb60 := k76.heap hb60 (not_or.2 ⟨Ne.symm n58, n69⟩)
    clear hb64 hd65
    have h77 : decide (¬ e1_ = 0) = true := decide_eq_true (by omega)
    have ph77 := of_decide_eq_true h77
    refine WL.op (d := 65) (.tuple #[.agg #[.int .u64 ((e1_ : Nat) : Int), .string ⟨(t1_).toArray⟩], .bool (decide (¬ e1_ = 0)), .int .i64 0]) (k := ?_)
    refine WL.op (d := 68) (.agg #[.int .u64 ((e1_ : Nat) : Int), .string ⟨(t1_).toArray⟩]) (k := ?_)
    refine WL.op (d := 69) (.bool (decide (¬ e1_ = 0))) (k := ?_)
    refine WL.op (d := 70) (.int .i64 0) (k := ?_)
    refine WL.new (d := 17) (T := 64) #[.int .u64 0, .string ⟨#[]⟩] (k := fun b78 w79 g80 hb81 k82 => ?_)
    have z83 := Nat.le_trans K.size g80
    have n84 : ¬ S63 b78 := fun h => absurd (hd75.lt _ h) (Nat.not_lt.2 g80)
    have n85 : b14 ≠ b78 := Nat.ne_of_lt (Nat.lt_of_lt_of_le (lt_of_heap hb74) g80)
    have n86 : b51 ≠ b78 := Nat.ne_of_lt (Nat.lt_of_lt_of_le (lt_of_heap hb60) g80)
    replace hd75 := hd75.adds k82
    replace hb74 := k82.heap hb74 id
    replace hb60 := k82.heap hb60 id
    replace K := K.trans (k82.any _)
    refine WL.store (v := .agg #[.int .u64 ((e1_ : Nat) : Int), .string ⟨(t1_).toArray⟩]) (i := 0) (cs' := #[.int .u64 ((e1_ : Nat) : Int), .string ⟨(t1_).toArray⟩]) hb81 (k := fun w87 hb88 k89 => ?_)
    replace hd75 := hd75.keeps k89 (fun i hi e => n84 (e ▸ hi))
    replace hb74 := k89.heap hb74 n85
    replace hb60 := k89.heap hb60 n86
    replace K := K.trans' k89 (fun i hi e => absurd (e ▸ hi) (Nat.not_lt.2 z83))
    clear hb81
    refine WL.op (d := 18) (.bool (decide (¬ e1_ = 0))) (k := ?_)
    refine WL.op (d := 19) (.int .i64 0) (k := ?_)
    refine WL.nil ?_
    refine WX.seqN ?_
    refine WC.seq ?_
    refine WC.region ?_
    refine WL.op (d := 71) (.bool true) (k := ?_)
    refine WL.op (d := 72) (.bool true) (k := ?_)
    refine WL.op (d := 73) (.int .i64 13) (k := ?_)
    refine WL.op (d := 74) (.bool true) (k := ?_)
    refine WL.op (d := 75) (.bool true) (k := ?_)
    refine WL.op (d := 76) (.bool true) (k := ?_)
    refine WL.op (d := 77) (.int .i64 18) (k := ?_)
    refine WL.op (d := 78) (.bool true) (k := ?_)
    refine WL.op (d := 79) (.bool true) (k := ?_)
    refine WL.op (d := 80) (.bool true) (k := ?_)
    refine WL.op (d := 81) (.int .i64 13) (k := ?_)
    refine WL.op (d := 82) (.bool true) (k := ?_)
    refine WL.op (d := 83) (.bool true) (k := ?_)
    refine WL.op (d := 84) (.bool true) (k := ?_)
    refine WL.op (d := 85) (.int .i64 0) (k := ?_)
    refine WL.op (d := 86) (.bool true) (k := ?_)
    refine WL.op (d := 87) (.bool true) (k := ?_)
    refine WL.op (d := 88) (.bool true) (k := ?_)
    refine WL.op (d := 89) (.int .i64 0) (k := ?_)
    refine WL.op (d := 90) (.bool true) (k := ?_)
    refine WL.op (d := 91) (.bool true) (k := ?_)
    refine WL.op (d := 92) (.bool true) (k := ?_)
    refine WL.op (d := 93) (.int .u64 ((N_ + 1 : Nat) : Int)) (k := ?_)
    refine WL.op (d := 94) (.bool (decide (((N_ + 1 : Nat) : Int) ≥ 1))) (k := ?_)
    refine WL.op (d := 95) (.bool (decide (((N_ + 1 : Nat) : Int) ≥ 1))) (k := ?_)
    refine WL.op (d := 96) (.bool (decide (((N_ + 1 : Nat) : Int) ≥ 1))) (k := ?_)
    refine bsplit (decide (((N_ + 1 : Nat) : Int) ≥ 1)) (fun h90 => ?_) (fun h90 => ?_)
    · have ph90 := of_decide_eq_true h90
      refine WL.rw (t := 96) (v := .bool true) (congrArg Value.bool h90) (k := ?_)
      refine WL.op (d := 97) (.bool (decide (¬ e1_ = 0))) (k := ?_)
      refine WL.op (d := 98) (.bool (decide (¬ e1_ = 0))) (k := ?_)
      refine WL.op (d := 99) (.bool (decide (¬ e1_ = 0))) (k := ?_)
      refine WL.rw (t := 99) (v := .bool true) (congrArg Value.bool h77) (k := ?_)
      refine WL.op (d := 100) (.pointer (some ⟨b78, 1, none⟩)) (k := ?_)
      refine WL.load (v := .string ⟨(t1_).toArray⟩) (ld1 (T := 9) (i := 1) hb88) (k := ?_)
      refine WL.opE (d := 102) (.bool (ByteArray.toList ⟨(t1_).toArray⟩ == ByteArray.toList ⟨([122]).toArray⟩)) (v := .bool (decide (t1_ = [122]))) (str_eql _ _) (k := ?_)
      refine WL.op (d := 103) (.bool (decide (t1_ = [122]))) (k := ?_)
      refine WL.op (d := 2) (.bool (decide (t1_ = [122]))) (k := ?_)
      refine WL.nil ?_
      refine WX.seqN ?_
      refine WC.ret ?_
      refine WX.ret (rs := [.tmp 2]) [.bool (decide (t1_ = [122]))] (.bool (decide (t1_ = [122]))) ⟨(by kernel_rfl), trivial⟩ (k := ?_)
      exact ⟨ret_bool (decide_eq_true q3_), K⟩
    · have ph90 := of_decide_eq_false h90
      refine WL.rw (t := 96) (v := .bool false) (congrArg Value.bool h90) (k := ?_)
      refine WL.skip (d := 97) (k := ?_)
      refine WL.op (d := 98) (.bool false) (k := ?_)
      refine WL.op (d := 99) (.bool false) (k := ?_)
      refine WL.skip (d := 100) (k := ?_)
      refine WL.skip (d := 101) (k := ?_)
      refine WL.skip (d := 102) (k := ?_)
      refine WL.op (d := 103) (.bool false) (k := ?_)
      refine WL.op (d := 2) (.bool false) (k := ?_)
      refine WL.nil ?_
      refine WX.seqN ?_
      refine WC.ret ?_
      refine WX.ret (rs := [.tmp 2]) [.bool false] (.bool false) ⟨(by kernel_rfl), trivial⟩ (k := ?_)
      exfalso; omega
  · have ph71 := of_decide_eq_false h71
    obtain ⟨-, q2_, q3_, -⟩ := hc_.resolve_left (fun h => ph71 h.1)
    refine WL.callG (d := 67) (f := 39) (args := #[.pointer (some ⟨b14, 0, none⟩)]) (svRead_first hb64 hd65 n67 o0_ o1_ (by omega)) (k := fun e_ w91 h_ => ?_)
    obtain ⟨rd92, rfl, hb93, hd94, k95⟩ := h_
    refine ⟨_, rfl, ?_⟩
    replace K := K.trans' k95 (fun i hi e => e.elim (fun e => absurd (e ▸ hi) (Nat.not_lt.2 z18)) (fun e => (lk70 i e).elim (fun h => h.elim) (fun h => absurd hi (Nat.not_lt.2 h))))
    replace hb60 := k95.heap hb60 (not_or.2 ⟨Ne.symm n58, n69⟩)
    clear hb64 hd65
    have h96 : decide (¬ e0_ = 0) = true := decide_eq_true (by omega)
    have ph96 := of_decide_eq_true h96
    refine WL.op (d := 65) (.tuple #[.agg #[.int .u64 ((e0_ : Nat) : Int), .string ⟨(t0_).toArray⟩], .bool (decide (¬ e0_ = 0)), .int .i64 0]) (k := ?_)
    refine WL.op (d := 68) (.agg #[.int .u64 ((e0_ : Nat) : Int), .string ⟨(t0_).toArray⟩]) (k := ?_)
    refine WL.op (d := 69) (.bool (decide (¬ e0_ = 0))) (k := ?_)
    refine WL.op (d := 70) (.int .i64 0) (k := ?_)
    refine WL.new (d := 17) (T := 64) #[.int .u64 0, .string ⟨#[]⟩] (k := fun b97 w98 g99 hb100 k101 => ?_)
    have z102 := Nat.le_trans K.size g99
    have n103 : ¬ S63 b97 := fun h => absurd (hd94.lt _ h) (Nat.not_lt.2 g99)
    have n104 : b14 ≠ b97 := Nat.ne_of_lt (Nat.lt_of_lt_of_le (lt_of_heap hb93) g99)
    have n105 : b51 ≠ b97 := Nat.ne_of_lt (Nat.lt_of_lt_of_le (lt_of_heap hb60) g99)
    replace hd94 := hd94.adds k101
    replace hb93 := k101.heap hb93 id
    replace hb60 := k101.heap hb60 id
    replace K := K.trans (k101.any _)
    refine WL.store (v := .agg #[.int .u64 ((e0_ : Nat) : Int), .string ⟨(t0_).toArray⟩]) (i := 0) (cs' := #[.int .u64 ((e0_ : Nat) : Int), .string ⟨(t0_).toArray⟩]) hb100 (k := fun w106 hb107 k108 => ?_)
    replace hd94 := hd94.keeps k108 (fun i hi e => n103 (e ▸ hi))
    replace hb93 := k108.heap hb93 n104
    replace hb60 := k108.heap hb60 n105
    replace K := K.trans' k108 (fun i hi e => absurd (e ▸ hi) (Nat.not_lt.2 z102))
    clear hb100
    refine WL.op (d := 18) (.bool (decide (¬ e0_ = 0))) (k := ?_)
    refine WL.op (d := 19) (.int .i64 0) (k := ?_)
    refine WL.nil ?_
    refine WX.seqN ?_
    refine WC.seq ?_
    refine WC.region ?_
    refine WL.op (d := 71) (.bool true) (k := ?_)
    refine WL.op (d := 72) (.bool true) (k := ?_)
    refine WL.op (d := 73) (.int .i64 13) (k := ?_)
    refine WL.op (d := 74) (.bool true) (k := ?_)
    refine WL.op (d := 75) (.bool true) (k := ?_)
    refine WL.op (d := 76) (.bool true) (k := ?_)
    refine WL.op (d := 77) (.int .i64 18) (k := ?_)
    refine WL.op (d := 78) (.bool true) (k := ?_)
    refine WL.op (d := 79) (.bool true) (k := ?_)
    refine WL.op (d := 80) (.bool true) (k := ?_)
    refine WL.op (d := 81) (.int .i64 13) (k := ?_)
    refine WL.op (d := 82) (.bool true) (k := ?_)
    refine WL.op (d := 83) (.bool true) (k := ?_)
    refine WL.op (d := 84) (.bool true) (k := ?_)
    refine WL.op (d := 85) (.int .i64 0) (k := ?_)
    refine WL.op (d := 86) (.bool true) (k := ?_)
    refine WL.op (d := 87) (.bool true) (k := ?_)
    refine WL.op (d := 88) (.bool true) (k := ?_)
    refine WL.op (d := 89) (.int .i64 0) (k := ?_)
    refine WL.op (d := 90) (.bool true) (k := ?_)
    refine WL.op (d := 91) (.bool true) (k := ?_)
    refine WL.op (d := 92) (.bool true) (k := ?_)
    refine WL.op (d := 93) (.int .u64 ((N_ + 1 : Nat) : Int)) (k := ?_)
    refine WL.op (d := 94) (.bool (decide (((N_ + 1 : Nat) : Int) ≥ 1))) (k := ?_)
    refine WL.op (d := 95) (.bool (decide (((N_ + 1 : Nat) : Int) ≥ 1))) (k := ?_)
    refine WL.op (d := 96) (.bool (decide (((N_ + 1 : Nat) : Int) ≥ 1))) (k := ?_)
    refine bsplit (decide (((N_ + 1 : Nat) : Int) ≥ 1)) (fun h109 => ?_) (fun h109 => ?_)
    · have ph109 := of_decide_eq_true h109
      refine WL.rw (t := 96) (v := .bool true) (congrArg Value.bool h109) (k := ?_)
      refine WL.op (d := 97) (.bool (decide (¬ e0_ = 0))) (k := ?_)
      refine WL.op (d := 98) (.bool (decide (¬ e0_ = 0))) (k := ?_)
      refine WL.op (d := 99) (.bool (decide (¬ e0_ = 0))) (k := ?_)
      refine WL.rw (t := 99) (v := .bool true) (congrArg Value.bool h96) (k := ?_)
      refine WL.op (d := 100) (.pointer (some ⟨b97, 1, none⟩)) (k := ?_)
      refine WL.load (v := .string ⟨(t0_).toArray⟩) (ld1 (T := 9) (i := 1) hb107) (k := ?_)
      refine WL.opE (d := 102) (.bool (ByteArray.toList ⟨(t0_).toArray⟩ == ByteArray.toList ⟨([122]).toArray⟩)) (v := .bool (decide (t0_ = [122]))) (str_eql _ _) (k := ?_)
      refine WL.op (d := 103) (.bool (decide (t0_ = [122]))) (k := ?_)
      refine WL.op (d := 2) (.bool (decide (t0_ = [122]))) (k := ?_)
      refine WL.nil ?_
      refine WX.seqN ?_
      refine WC.ret ?_
      refine WX.ret (rs := [.tmp 2]) [.bool (decide (t0_ = [122]))] (.bool (decide (t0_ = [122]))) ⟨(by kernel_rfl), trivial⟩ (k := ?_)
      exact ⟨ret_bool (decide_eq_true q3_), K⟩
    · have ph109 := of_decide_eq_false h109
      refine WL.rw (t := 96) (v := .bool false) (congrArg Value.bool h109) (k := ?_)
      refine WL.skip (d := 97) (k := ?_)
      refine WL.op (d := 98) (.bool false) (k := ?_)
      refine WL.op (d := 99) (.bool false) (k := ?_)
      refine WL.skip (d := 100) (k := ?_)
      refine WL.skip (d := 101) (k := ?_)
      refine WL.skip (d := 102) (k := ?_)
      refine WL.op (d := 103) (.bool false) (k := ?_)
      refine WL.op (d := 2) (.bool false) (k := ?_)
      refine WL.nil ?_
      refine WX.seqN ?_
      refine WC.ret ?_
      refine WX.ret (rs := [.tmp 2]) [.bool false] (.bool false) ⟨(by kernel_rfl), trivial⟩ (k := ?_)
      exfalso; omega

end Go.Proofs.YtdoenmokahbeaaaDoor
