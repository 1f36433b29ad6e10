/- Frames: the laws. -/
import Derived.Test.YtdoenmokahbeaaaDoorFr8a
namespace Go.Proofs.YtdoenmokahbeaaaDoor
open Go.RowKit
set_option linter.unusedVariables false
set_option linter.unusedSimpArgs false

set_option maxRecDepth 100000 in
theorem l04short_c (l : List UInt8) (n : Nat) (hn : n ≤ 1000000) (hl : l.length ≤ 9223372036854775807) (w : World) : Calls Tryd.prog 15 #[.string ⟨l.toArray⟩, .int .i64 (n : Int)] w fun e w' => ∃ l' : List UInt8, l'.length ≤ n ∧ e = .returned (.string ⟨l'.toArray⟩) ∧ Adds w w' := by
  have K : Keeps (fun _ => False) w w := Keeps.refl _ w
  refine Calls.start Tryd.func15 rfl (by kernel_rfl) ?_
  refine WC.seq ?_
  refine WC.region ?_
  refine WL.op (d := 4) (.string ⟨#[]⟩) (k := ?_)
  refine WL.nil ?_
  refine WX.seqN ?_
  refine WC.seq ?_
  refine WC.seq ?_
  refine WC.region ?_
  refine WL.op (d := 5) (.string ⟨(l).toArray⟩) (k := ?_)
  refine WL.op (d := 6) (.int .i64 (l.length : Int)) (k := ?_)
  refine WL.op (d := 7) (.int .i64 (n : Int)) (k := ?_)
  refine WL.op (d := 8) (.bool (decide ((l.length : Int) > (n : Int)))) (k := ?_)
  refine WL.nil ?_
  refine WX.seqN ?_
  refine WC.cond (b := decide ((l.length : Int) > (n : Int))) (ht := fun h1 => ?_) (hf := fun h1 => ?_)
  · have ph1 := of_decide_eq_true h1
    refine WC.seq ?_
    refine WC.region ?_
    refine WL.op (d := 9) (.string ⟨(l).toArray⟩) (k := ?_)
    refine WL.op (d := 10) (.int .i64 (n : Int)) (k := ?_)
    refine WL.cut (d := 11) (vx := .string ⟨(l).toArray⟩) (lo' := none) (hi' := (some (.int .i64 (n : Int)))) (mx' := none) (v := .string ⟨(List.take n l).toArray⟩) (run_cut (P := Tryd.prog) (w := w) (lo := none) (hi := (some (.int .i64 (n : Int)))) (T := 9) (a := 0) (b := n) (l := l) (by kernel_rfl) (.inl ⟨rfl, rfl⟩) (.inr ⟨_, _, rfl, by omega⟩) (by first | omega | (simp; omega)) (by first | omega | (simp; omega))) (k := ?_)
    refine WL.op (d := 4) (.string ⟨(List.take n l).toArray⟩) (k := ?_)
    refine WL.nil ?_
    refine WX.seqN ?_
    refine WC.ret ?_
    refine WX.seqR ?_
    refine WX.ret (rs := [.tmp 4]) [.string ⟨(List.take n l).toArray⟩] (.string ⟨(List.take n l).toArray⟩) ⟨(by kernel_rfl), trivial⟩ (k := ?_)
    exact ⟨_, (by simp <;> omega), rfl, K⟩
  · have ph1 := of_decide_eq_false h1
    refine WC.skip ?_
    refine WX.seqN ?_
    refine WC.seq ?_
    refine WC.region ?_
    refine WL.op (d := 12) (.string ⟨(l).toArray⟩) (k := ?_)
    refine WL.op (d := 4) (.string ⟨(l).toArray⟩) (k := ?_)
    refine WL.nil ?_
    refine WX.seqN ?_
    refine WC.ret ?_
    refine WX.ret (rs := [.tmp 4]) [.string ⟨(l).toArray⟩] (.string ⟨(l).toArray⟩) ⟨(by kernel_rfl), trivial⟩ (k := ?_)
    exact ⟨_, (by omega), rfl, K⟩

set_option maxRecDepth 100000 in
set_option maxHeartbeats 4000000 in
theorem l04awake_c (w : World) : Calls Tryd.prog 14 #[] w fun e w' => e = .returned (.bool true) ∧ Adds w w' := by
  have K : Keeps (fun _ => False) w w := Keeps.refl _ w
  refine Calls.start Tryd.func14 rfl (by kernel_rfl) ?_
  refine WC.seq ?_
  refine WC.region ?_
  refine WL.op (d := 0) (.bool false) (k := ?_)
  refine WL.nil ?_
  refine WX.seqN ?_
  refine WC.seq ?_
  refine WC.region ?_
  refine WL.op (d := 6) (.agg #[.string ⟨#[97, 98]⟩, .int .u64 3, .int .u64 7]) (k := ?_)
  refine WL.callG (d := 7) (f := 23) (args := #[.agg #[.string ⟨#[97, 98]⟩, .int .u64 3, .int .u64 7]]) (fMake_ok (p := [97, 98]) (e := 3) (n := 7) (by first | omega | (simp; done) | (simp; omega)) (by show List.length [97, 98] ≤ _; first | omega | (simp; done) | (simp; omega)) (by omega) (by omega) w) (k := fun e_ w2 h_ => ⟨.tuple #[.string ⟨(makeS [97, 98] 3 7).toArray⟩, .int .i64 0], h_.1, ?_⟩)
  have k3 := h_.2; clear h_
  replace K := K.trans (k3.any _)
  have ml1 := makeS_len (p := [97, 98]) (by first | omega | (simp; done) | (simp; omega)) 3 7
  refine WL.op (d := 5) (.tuple #[.string ⟨(makeS [97, 98] 3 7).toArray⟩, .int .i64 0]) (k := ?_)
  refine WL.op (d := 8) (.string ⟨(makeS [97, 98] 3 7).toArray⟩) (k := ?_)
  refine WL.op (d := 9) (.int .i64 0) (k := ?_)
  refine WL.op (d := 1) (.string ⟨(makeS [97, 98] 3 7).toArray⟩) (k := ?_)
  refine WL.op (d := 2) (.int .i64 0) (k := ?_)
  refine WL.nil ?_
  refine WX.seqN ?_
  refine WC.seq ?_
  refine WC.region ?_
  refine WL.op (d := 11) (.string ⟨(makeS [97, 98] 3 7).toArray⟩) (k := ?_)
  refine WL.callG (d := 12) (f := 17) (args := #[.string ⟨(makeS [97, 98] 3 7).toArray⟩]) (fRead_mk (p := [97, 98]) (e := 3) (n := 7) (by first | omega | (simp; done)) (by omega) (by omega) w2) (k := fun e_ w4 h_ => ⟨.tuple #[.agg #[.string ⟨#[97, 98]⟩, .int .u64 3, .int .u64 7], .bool true], h_.1, ?_⟩)
  have k5 := h_.2; clear h_
  replace K := K.trans (k5.any _)
  refine WL.op (d := 10) (.tuple #[.agg #[.string ⟨#[97, 98]⟩, .int .u64 3, .int .u64 7], .bool true]) (k := ?_)
  refine WL.op (d := 13) (.agg #[.string ⟨#[97, 98]⟩, .int .u64 3, .int .u64 7]) (k := ?_)
  refine WL.op (d := 14) (.bool true) (k := ?_)
  refine WL.new (d := 3) (T := 24) #[.string ⟨#[]⟩, .int .u64 0, .int .u64 0] (k := fun b6 w7 g8 hb9 k10 => ?_)
  have z11 := Nat.le_trans K.size g8
  replace K := K.trans (k10.any _)
  refine WL.store (v := .agg #[.string ⟨#[97, 98]⟩, .int .u64 3, .int .u64 7]) (i := 0) (cs' := #[.string ⟨#[97, 98]⟩, .int .u64 3, .int .u64 7]) hb9 (k := fun w12 hb13 k14 => ?_)
  replace K := K.trans' k14 (fun i hi e => absurd (e ▸ hi) (Nat.not_lt.2 z11))
  clear hb9
  refine WL.op (d := 4) (.bool true) (k := ?_)
  refine WL.nil ?_
  refine WX.seqN ?_
  refine WC.seq ?_
  refine WC.region ?_
  refine WL.op (d := 15) (.int .i64 0) (k := ?_)
  refine WL.op (d := 16) (.bool true) (k := ?_)
  refine WL.op (d := 17) (.bool true) (k := ?_)
  refine WL.op (d := 18) (.string ⟨(makeS [97, 98] 3 7).toArray⟩) (k := ?_)
  refine WL.op (d := 19) (.int .i64 ((makeS [97, 98] 3 7).length : Int)) (k := ?_)
  refine WL.op (d := 20) (.bool (((makeS [97, 98] 3 7).length : Int) == 64)) (k := ?_)
  refine WL.op (d := 21) (.bool (((makeS [97, 98] 3 7).length : Int) == 64)) (k := ?_)
  refine WL.op (d := 22) (.bool (((makeS [97, 98] 3 7).length : Int) == 64)) (k := ?_)
  refine bsplit (((makeS [97, 98] 3 7).length : Int) == 64) (fun h15 => ?_) (fun h15 => ?_)
  · have ph15 := eq_of_beq h15
    refine WL.rw (t := 22) (v := .bool true) (congrArg Value.bool h15) (k := ?_)
    refine WL.op (d := 23) (.string ⟨(makeS [97, 98] 3 7).toArray⟩) (k := ?_)
    refine WL.cut (d := 24) (vx := .string ⟨(makeS [97, 98] 3 7).toArray⟩) (lo' := (some (.int .i64 48))) (hi' := none) (mx' := none) (v := .string ⟨(List.drop 48 (makeS [97, 98] 3 7)).toArray⟩) ((by have h_ := run_cut (P := Tryd.prog) (w := w12) (lo := (some (.int .i64 48))) (hi := none) (T := 9) (a := 48) (b := (makeS [97, 98] 3 7).length) (l := (makeS [97, 98] 3 7)) (by kernel_rfl) (.inr ⟨_, _, rfl, by omega⟩) (.inl ⟨rfl, rfl⟩) (by first | omega | (simp; omega)) (by first | omega | (simp; omega)); rw [List.take_length] at h_; exact h_)) (k := ?_)
    refine WL.opE (d := 25) (.bool (ByteArray.toList ⟨(List.drop 48 (makeS [97, 98] 3 7)).toArray⟩ == ByteArray.toList ⟨([0, 0, 0, 0, 0, 0, 0, 3, 0, 0, 0, 0, 0, 0, 0, 7]).toArray⟩)) (v := .bool (decide (List.drop 48 (makeS [97, 98] 3 7) = [0, 0, 0, 0, 0, 0, 0, 3, 0, 0, 0, 0, 0, 0, 0, 7]))) (str_eql _ _) (k := ?_)
    refine WL.op (d := 26) (.bool (decide (List.drop 48 (makeS [97, 98] 3 7) = [0, 0, 0, 0, 0, 0, 0, 3, 0, 0, 0, 0, 0, 0, 0, 7]))) (k := ?_)
    refine WL.op (d := 27) (.bool (decide (List.drop 48 (makeS [97, 98] 3 7) = [0, 0, 0, 0, 0, 0, 0, 3, 0, 0, 0, 0, 0, 0, 0, 7]))) (k := ?_)
    refine bsplit (decide (List.drop 48 (makeS [97, 98] 3 7) = [0, 0, 0, 0, 0, 0, 0, 3, 0, 0, 0, 0, 0, 0, 0, 7])) (fun h16 => ?_) (fun h16 => ?_)
    · have ph16 := of_decide_eq_true h16
      refine WL.rw (t := 27) (v := .bool true) (congrArg Value.bool h16) (k := ?_)
      refine WL.op (d := 28) (.bool true) (k := ?_)
      refine WL.op (d := 29) (.bool true) (k := ?_)
      refine WL.op (d := 30) (.bool true) (k := ?_)
      refine WL.op (d := 31) (.pointer (some ⟨b6, 0, none⟩)) (k := ?_)
      refine WL.load (v := .string ⟨#[97, 98]⟩) (ld1 (T := 9) (i := 0) hb13) (k := ?_)
      refine WL.op (d := 33) (.bool true) (k := ?_)
      refine WL.op (d := 34) (.bool true) (k := ?_)
      refine WL.op (d := 0) (.bool true) (k := ?_)
      refine WL.nil ?_
      refine WX.seqN ?_
      refine WC.ret ?_
      refine WX.ret (rs := [.tmp 0]) [.bool true] (.bool true) ⟨(by kernel_rfl), trivial⟩ (k := ?_)
      exact ⟨rfl, K⟩
    · have ph16 := of_decide_eq_false h16
      refine WL.rw (t := 27) (v := .bool false) (congrArg Value.bool h16) (k := ?_)
      refine WL.skip (d := 28) (k := ?_)
      refine WL.op (d := 29) (.bool false) (k := ?_)
      refine WL.op (d := 30) (.bool false) (k := ?_)
      refine WL.skip (d := 31) (k := ?_)
      refine WL.skip (d := 32) (k := ?_)
      refine WL.skip (d := 33) (k := ?_)
      refine WL.op (d := 34) (.bool false) (k := ?_)
      refine WL.op (d := 0) (.bool false) (k := ?_)
      refine WL.nil ?_
      refine WX.seqN ?_
      refine WC.ret ?_
      refine WX.ret (rs := [.tmp 0]) [.bool false] (.bool false) ⟨(by kernel_rfl), trivial⟩ (k := ?_)
      exact absurd awk_tag ph16
  · have ph15 := ne_of_beq_false h15
    refine WL.rw (t := 22) (v := .bool false) (congrArg Value.bool h15) (k := ?_)
    refine WL.skip (d := 23) (k := ?_)
    refine WL.skip (d := 24) (k := ?_)
    refine WL.skip (d := 25) (k := ?_)
    refine WL.op (d := 26) (.bool false) (k := ?_)
    refine WL.op (d := 27) (.bool false) (k := ?_)
    refine WL.skip (d := 28) (k := ?_)
    refine WL.op (d := 29) (.bool false) (k := ?_)
    refine WL.op (d := 30) (.bool false) (k := ?_)
    refine WL.skip (d := 31) (k := ?_)
    refine WL.skip (d := 32) (k := ?_)
    refine WL.skip (d := 33) (k := ?_)
    refine WL.op (d := 34) (.bool false) (k := ?_)
    refine WL.op (d := 0) (.bool false) (k := ?_)
    refine WL.nil ?_
    refine WX.seqN ?_
    refine WC.ret ?_
    refine WX.ret (rs := [.tmp 0]) [.bool false] (.bool false) ⟨(by kernel_rfl), trivial⟩ (k := ?_)
    exfalso; omega

set_option maxRecDepth 100000 in
set_option maxHeartbeats 4000000 in
theorem lFrameBack_c {p : List UInt8} {e n : Nat} (hpm : p.length ≤ 9223372036854775807) (he : e < 18446744073709551616) (hn : n < 18446744073709551616) (at_ : Int) (x : UInt8) (w : World) : Calls Tryd.prog 4 #[.agg #[.string ⟨p.toArray⟩, .int .u64 (e : Int), .int .u64 (n : Int)], .int .i64 at_, .int .u8 (x.toNat : Int)] w fun e_ w' => e_ = .returned (.bool true) ∧ Adds w w' := by
  have K : Keeps (fun _ => False) w w := Keeps.refl _ w
  have ub_ := u8_lt x
  refine Calls.start Tryd.func4 rfl (by kernel_rfl) ?_
  refine WC.seq ?_
  refine WC.region ?_
  refine WL.new (d := 3) (T := 24) #[.string ⟨(p).toArray⟩, .int .u64 ((e : Nat) : Int), .int .u64 ((n : Nat) : Int)] (k := fun b1 w2 g3 hb4 k5 => ?_)
  have z6 := Nat.le_trans K.size g3
  replace K := K.trans (k5.any _)
  refine WL.op (d := 6) (.bool false) (k := ?_)
  refine WL.nil ?_
  refine WX.seqN ?_
  refine WC.seq ?_
  refine WC.region ?_
  refine WL.callG (d := 16) (f := 14) (args := #[]) (l04awake_c w2) (k := fun e_ w7 h_ => ⟨.bool true, h_.1, ?_⟩)
  have k8 := h_.2; clear h_
  replace hb4 := k8.heap hb4 id
  replace K := K.trans (k8.any _)
  refine WL.op (d := 7) (.bool true) (k := ?_)
  refine WL.nil ?_
  refine WX.seqN ?_
  refine WC.seq ?_
  refine WC.region ?_
  refine WL.op (d := 17) (.pointer (some ⟨b1, 0, none⟩)) (k := ?_)
  refine WL.load (v := .string ⟨(p).toArray⟩) (ld1 (T := 9) (i := 0) hb4) (k := ?_)
  refine WL.callG (d := 19) (f := 15) (args := #[.string ⟨(p).toArray⟩, .int .i64 43]) (l04short_c p 43 (by omega) (by show List.length p ≤ _; first | omega | (simp; done) | (simp; omega)) w7) (k := fun e_ w9 h_ => ?_)
  obtain ⟨l10, hl11, rfl, k12⟩ := h_
  refine ⟨_, rfl, ?_⟩
  replace hb4 := k12.heap hb4 id
  replace K := K.trans (k12.any _)
  refine WL.op (d := 20) (.pointer (some ⟨b1, 0, none⟩)) (k := ?_)
  refine WL.store (v := .string ⟨(l10).toArray⟩) (i := 0) (cs' := #[.string ⟨(l10).toArray⟩, .int .u64 ((e : Nat) : Int), .int .u64 ((n : Nat) : Int)]) hb4 (k := fun w13 hb14 k15 => ?_)
  replace K := K.trans' k15 (fun i hi e => absurd (e ▸ hi) (Nat.not_lt.2 z6))
  clear hb4
  refine WL.nil ?_
  refine WX.seqN ?_
  refine WC.seq ?_
  refine WC.region ?_
  refine WL.load (v := .agg #[.string ⟨(l10).toArray⟩, .int .u64 ((e : Nat) : Int), .int .u64 ((n : Nat) : Int)]) (ldN (T := 24) (i := 0) (m := 3) (l := [.string ⟨(l10).toArray⟩, .int .u64 ((e : Nat) : Int), .int .u64 ((n : Nat) : Int)]) hb14) (k := ?_)
  refine WL.callG (d := 23) (f := 23) (args := #[.agg #[.string ⟨(l10).toArray⟩, .int .u64 ((e : Nat) : Int), .int .u64 ((n : Nat) : Int)]]) (fMake_ok (p := l10) (e := e) (n := n) (by first | omega | (simp; done) | (simp; omega)) (by show List.length l10 ≤ _; first | omega | (simp; done) | (simp; omega)) (by omega) (by omega) w13) (k := fun e_ w17 h_ => ⟨.tuple #[.string ⟨(makeS l10 e n).toArray⟩, .int .i64 0], h_.1, ?_⟩)
  have k18 := h_.2; clear h_
  replace hb14 := k18.heap hb14 id
  replace K := K.trans (k18.any _)
  have ml16 := makeS_len (p := l10) (by first | omega | (simp; done) | (simp; omega)) e n
  refine WL.op (d := 21) (.tuple #[.string ⟨(makeS l10 e n).toArray⟩, .int .i64 0]) (k := ?_)
  refine WL.op (d := 24) (.string ⟨(makeS l10 e n).toArray⟩) (k := ?_)
  refine WL.op (d := 25) (.int .i64 0) (k := ?_)
  refine WL.op (d := 8) (.string ⟨(makeS l10 e n).toArray⟩) (k := ?_)
  refine WL.op (d := 9) (.int .i64 0) (k := ?_)
  refine WL.nil ?_
  refine WX.seqN ?_
  refine WC.seq ?_
  refine WC.seq ?_
  refine WC.region ?_
  refine WL.op (d := 26) (.int .i64 0) (k := ?_)
  refine WL.op (d := 27) (.bool false) (k := ?_)
  refine WL.op (d := 28) (.bool false) (k := ?_)
  refine WL.op (d := 29) (.string ⟨(makeS l10 e n).toArray⟩) (k := ?_)
  refine WL.op (d := 30) (.int .i64 ((makeS l10 e n).length : Int)) (k := ?_)
  refine WL.op (d := 31) (.bool (((makeS l10 e n).length : Int) != 64)) (k := ?_)
  refine WL.op (d := 32) (.bool (((makeS l10 e n).length : Int) != 64)) (k := ?_)
  refine WL.nil ?_
  refine WX.seqN ?_
  refine WC.cond (b := ((makeS l10 e n).length : Int) != 64) (ht := fun h19 => ?_) (hf := fun h19 => ?_)
  · have ph19 := bne_iff_ne.1 h19
    refine WC.seq ?_
    refine WC.region ?_
    refine WL.op (d := 6) (.bool false) (k := ?_)
    refine WL.nil ?_
    refine WX.seqN ?_
    refine WC.ret ?_
    refine WX.seqR ?_
    refine WX.ret (rs := [.tmp 6]) [.bool false] (.bool false) ⟨(by kernel_rfl), trivial⟩ (k := ?_)
    exfalso; omega
  · have ph19 := of_bne_false h19
    refine WC.skip ?_
    refine WX.seqN ?_
    refine WC.seq ?_
    refine WC.region ?_
    refine WL.op (d := 34) (.string ⟨(makeS l10 e n).toArray⟩) (k := ?_)
    refine WL.callG (d := 35) (f := 17) (args := #[.string ⟨(makeS l10 e n).toArray⟩]) (fRead_mk (p := l10) (e := e) (n := n) (by first | omega | (simp; done)) (by omega) (by omega) w17) (k := fun e_ w20 h_ => ⟨.tuple #[.agg #[.string ⟨(l10).toArray⟩, .int .u64 ((e : Nat) : Int), .int .u64 ((n : Nat) : Int)], .bool true], h_.1, ?_⟩)
    have k21 := h_.2; clear h_
    replace hb14 := k21.heap hb14 id
    replace K := K.trans (k21.any _)
    refine WL.op (d := 33) (.tuple #[.agg #[.string ⟨(l10).toArray⟩, .int .u64 ((e : Nat) : Int), .int .u64 ((n : Nat) : Int)], .bool true]) (k := ?_)
    refine WL.op (d := 36) (.agg #[.string ⟨(l10).toArray⟩, .int .u64 ((e : Nat) : Int), .int .u64 ((n : Nat) : Int)]) (k := ?_)
    refine WL.op (d := 37) (.bool true) (k := ?_)
    refine WL.new (d := 10) (T := 24) #[.string ⟨#[]⟩, .int .u64 0, .int .u64 0] (k := fun b22 w23 g24 hb25 k26 => ?_)
    have z27 := Nat.le_trans K.size g24
    have n28 : b1 ≠ b22 := Nat.ne_of_lt (Nat.lt_of_lt_of_le (lt_of_heap hb14) g24)
    replace hb14 := k26.heap hb14 id
    replace K := K.trans (k26.any _)
    refine WL.store (v := .agg #[.string ⟨(l10).toArray⟩, .int .u64 ((e : Nat) : Int), .int .u64 ((n : Nat) : Int)]) (i := 0) (cs' := #[.string ⟨(l10).toArray⟩, .int .u64 ((e : Nat) : Int), .int .u64 ((n : Nat) : Int)]) hb25 (k := fun w29 hb30 k31 => ?_)
    replace hb14 := k31.heap hb14 n28
    replace K := K.trans' k31 (fun i hi e => absurd (e ▸ hi) (Nat.not_lt.2 z27))
    clear hb25
    refine WL.op (d := 11) (.bool true) (k := ?_)
    refine WL.nil ?_
    refine WX.seqN ?_
    refine WC.seq ?_
    refine WC.region ?_
    refine WL.op (d := 38) (.string ⟨(makeS l10 e n).toArray⟩) (k := ?_)
    obtain ⟨b32, c33, w34, g35, hc36, hy37, k38⟩ := run_toBytesB (makeS l10 e n) w29
    refine WL.conv (d := 39) (vx := .string ⟨(makeS l10 e n).toArray⟩) (v := .slice (some ⟨b32, 0, none⟩) ((makeS l10 e n).length) c33) hc36 (k := ?_)
    clear hc36
    have z39 := Nat.le_trans K.size g35
    have n40 : b1 ≠ b32 := Nat.ne_of_lt (Nat.lt_of_lt_of_le (lt_of_heap hb14) g35)
    have n41 : b22 ≠ b32 := Nat.ne_of_lt (Nat.lt_of_lt_of_le (lt_of_heap hb30) g35)
    replace hb14 := k38.heap hb14 id
    replace hb30 := k38.heap hb30 id
    replace K := K.trans (k38.any _)
    refine WL.op (d := 12) (.slice (some ⟨b32, 0, none⟩) ((makeS l10 e n).length) c33) (k := ?_)
    refine WL.nil ?_
    refine WX.seqN ?_
    refine WC.seq ?_
    refine WC.region ?_
    refine WL.op (d := 40) (.int .i64 at_) (k := ?_)
    refine WL.bin (d := 41) (v := .int .i64 (Int.tmod at_ 63)) (rem_run (by omega)) (k := ?_)
    have m42 := tmod_rng at_ 63 (by omega)
    obtain ⟨r43, e44⟩ : ∃ r : Int, Int.tmod at_ 63 = r := ⟨_, rfl⟩
    rw [e44] at m42
    refine WL.rw (t := 41) (v := .int .i64 r43) (congrArg (Value.int .i64) e44) (k := ?_)
    refine WL.opE (d := 42) (.int .i64 (IntKind.i64.wrap (r43 + 63))) (v := .int .i64 (r43 + 63)) (congrArg (Value.int .i64) (IntWalk.i64_in _ (by omega))) (k := ?_)
    refine WL.bin (d := 43) (v := .int .i64 (Int.tmod (r43 + 63) 63)) (rem_run (by omega)) (k := ?_)
    have m45 := tmod_rng (r43 + 63) 63 (by omega)
    obtain ⟨r46, e47⟩ : ∃ r : Int, Int.tmod (r43 + 63) 63 = r := ⟨_, rfl⟩
    rw [e47] at m45
    refine WL.rw (t := 43) (v := .int .i64 r46) (congrArg (Value.int .i64) e47) (k := ?_)
    refine WL.opE (d := 44) (.int .i64 (IntKind.i64.wrap (1 + r46))) (v := .int .i64 (1 + r46)) (congrArg (Value.int .i64) (IntWalk.i64_in _ (by omega))) (k := ?_)
    refine WL.op (d := 13) (.int .i64 (1 + r46)) (k := ?_)
    refine WL.nil ?_
    refine WX.seqN ?_
    refine WC.seq ?_
    refine WC.region ?_
    refine WL.op (d := 45) (.slice (some ⟨b32, 0, none⟩) ((makeS l10 e n).length) c33) (k := ?_)
    refine WL.op (d := 46) (.int .i64 (1 + r46)) (k := ?_)
    refine WL.op (d := 47) (.slice (some ⟨b32, 0, none⟩) ((makeS l10 e n).length) c33) (k := ?_)
    refine WL.op (d := 48) (.int .i64 (1 + r46)) (k := ?_)
    refine WL.idx (T := 31) (E := 5) (m := 1) (b := b32) (o := 0) (len := (makeS l10 e n).length) (cap := c33) (i := 1 + r46) (kk := .i64) (d := 49) (by omega) (by omega) (k := ?_)
    have ub48 := u8_lt ((makeS l10 e n)[0 + (1 + r46).toNat * 1]'(by omega))
    refine WL.load (v := .int .u8 (((makeS l10 e n)[0 + (1 + r46).toNat * 1]'(by omega)).toNat : Int)) (bytes_ld (i := 0 + (1 + r46).toNat * 1) hy37 (by omega)) (k := ?_)
    refine WL.op (d := 51) (.int .u8 (x.toNat : Int)) (k := ?_)
    refine WL.bin (d := 52) (v := .int .u8 (bits BinOp.xor IntKind.u8 (((makeS l10 e n)[0 + (1 + r46).toNat * 1]'(by omega)).toNat : Int) (x.toNat : Int))) (bits_run (by decide)) (k := ?_)
    refine WL.rw (t := 52) (v := .int .u8 (((((makeS l10 e n)[0 + (1 + r46).toNat * 1]'(by omega)).toNat) ^^^ x.toNat : Nat) : Int)) (congrArg (Value.int .u8) (bits_xor8 (a := (((makeS l10 e n)[0 + (1 + r46).toNat * 1]'(by omega)).toNat)) (b := x.toNat) (by omega) (by omega))) (k := ?_)
    have xb49 : (((makeS l10 e n)[0 + (1 + r46).toNat * 1]'(by omega)).toNat) ^^^ x.toNat < 256 := xor_lt (k := 8) (by omega) (by omega)
    refine WL.idx (T := 31) (E := 5) (m := 1) (b := b32) (o := 0) (len := (makeS l10 e n).length) (cap := c33) (i := 1 + r46) (kk := .i64) (d := 53) (by omega) (by omega) (k := ?_)
    obtain ⟨u50, hu51⟩ := byte_of (x := (((((makeS l10 e n)[0 + (1 + r46).toNat * 1]'(by omega)).toNat) ^^^ x.toNat : Nat) : Int)) (by omega) (by omega)
    refine WL.rw (t := 52) (v := .int .u8 (u50.toNat : Int)) (congrArg (Value.int .u8) hu51) (k := ?_)
    obtain ⟨w52, hs53, hy54, k55⟩ := bytes_st (i := 0 + (1 + r46).toNat * 1) hy37 (by omega) u50
    refine WL.wr (v := .int .u8 (u50.toNat : Int)) hs53 (k := ?_)
    replace hb14 := k55.heap hb14 n40
    replace hb30 := k55.heap hb30 n41
    replace K := K.trans' k55 (fun i hi e => absurd (e ▸ hi) (Nat.not_lt.2 z39))
    clear hs53 hy37
    refine WL.nil ?_
    refine WX.seqN ?_
    refine WC.seq ?_
    refine WC.region ?_
    refine WL.op (d := 55) (.slice (some ⟨b32, 0, none⟩) ((makeS l10 e n).length) c33) (k := ?_)
    refine WL.conv (d := 56) (vx := .slice (some ⟨b32, 0, none⟩) ((makeS l10 e n).length) c33) (v := .string ⟨(List.set (makeS l10 e n) (0 + (1 + r46).toNat * 1) u50).toArray⟩) (bytes_strN hy54 (by simp)) (k := ?_)
    refine WL.callG (d := 57) (f := 17) (args := #[.string ⟨(List.set (makeS l10 e n) (0 + (1 + r46).toNat * 1) u50).toArray⟩]) (fRead_c (l := List.set (makeS l10 e n) (0 + (1 + r46).toNat * 1) u50) (by show List.length (List.set (makeS l10 e n) (0 + (1 + r46).toNat * 1) u50) ≤ _; first | omega | (simp; done) | (simp; omega)) w52) (k := fun e_ w59 h_ => ⟨.tuple #[.agg #[.string ⟨(rdP (List.set (makeS l10 e n) (0 + (1 + r46).toNat * 1) u50)).toArray⟩, .int .u64 ((rdE (List.set (makeS l10 e n) (0 + (1 + r46).toNat * 1) u50) : Nat) : Int), .int .u64 ((rdN (List.set (makeS l10 e n) (0 + (1 + r46).toNat * 1) u50) : Nat) : Int)], .bool (decide (isCell (List.set (makeS l10 e n) (0 + (1 + r46).toNat * 1) u50)))], h_.1, ?_⟩)
    have k60 := h_.2; clear h_
    replace hb14 := k60.heap hb14 id
    replace hb30 := k60.heap hb30 id
    replace hy54 := hy54.keeps k60 id
    replace K := K.trans (k60.any _)
    have te56 := rdE_lt (List.set (makeS l10 e n) (0 + (1 + r46).toNat * 1) u50)
    have te57 := rdN_lt (List.set (makeS l10 e n) (0 + (1 + r46).toNat * 1) u50)
    have te58 := rdP_len (List.set (makeS l10 e n) (0 + (1 + r46).toNat * 1) u50)
    refine WL.op (d := 54) (.tuple #[.agg #[.string ⟨(rdP (List.set (makeS l10 e n) (0 + (1 + r46).toNat * 1) u50)).toArray⟩, .int .u64 ((rdE (List.set (makeS l10 e n) (0 + (1 + r46).toNat * 1) u50) : Nat) : Int), .int .u64 ((rdN (List.set (makeS l10 e n) (0 + (1 + r46).toNat * 1) u50) : Nat) : Int)], .bool (decide (isCell (List.set (makeS l10 e n) (0 + (1 + r46).toNat * 1) u50)))]) (k := ?_)
    refine WL.op (d := 58) (.agg #[.string ⟨(rdP (List.set (makeS l10 e n) (0 + (1 + r46).toNat * 1) u50)).toArray⟩, .int .u64 ((rdE (List.set (makeS l10 e n) (0 + (1 + r46).toNat * 1) u50) : Nat) : Int), .int .u64 ((rdN (List.set (makeS l10 e n) (0 + (1 + r46).toNat * 1) u50) : Nat) : Int)]) (k := ?_)
    refine WL.op (d := 59) (.bool (decide (isCell (List.set (makeS l10 e n) (0 + (1 + r46).toNat * 1) u50)))) (k := ?_)
    refine WL.new (d := 14) (T := 24) #[.string ⟨#[]⟩, .int .u64 0, .int .u64 0] (k := fun b61 w62 g63 hb64 k65 => ?_)
    have z66 := Nat.le_trans K.size g63
    have n67 : b1 ≠ b61 := Nat.ne_of_lt (Nat.lt_of_lt_of_le (lt_of_heap hb14) g63)
    have n68 : b22 ≠ b61 := Nat.ne_of_lt (Nat.lt_of_lt_of_le (lt_of_heap hb30) g63)
    have n69 : b32 ≠ b61 := Nat.ne_of_lt (Nat.lt_of_lt_of_le hy54.lt g63)
    replace hb14 := k65.heap hb14 id
    replace hb30 := k65.heap hb30 id
    replace hy54 := hy54.keeps k65 id
    replace K := K.trans (k65.any _)
    refine WL.store (v := .agg #[.string ⟨(rdP (List.set (makeS l10 e n) (0 + (1 + r46).toNat * 1) u50)).toArray⟩, .int .u64 ((rdE (List.set (makeS l10 e n) (0 + (1 + r46).toNat * 1) u50) : Nat) : Int), .int .u64 ((rdN (List.set (makeS l10 e n) (0 + (1 + r46).toNat * 1) u50) : Nat) : Int)]) (i := 0) (cs' := #[.string ⟨(rdP (List.set (makeS l10 e n) (0 + (1 + r46).toNat * 1) u50)).toArray⟩, .int .u64 ((rdE (List.set (makeS l10 e n) (0 + (1 + r46).toNat * 1) u50) : Nat) : Int), .int .u64 ((rdN (List.set (makeS l10 e n) (0 + (1 + r46).toNat * 1) u50) : Nat) : Int)]) hb64 (k := fun w70 hb71 k72 => ?_)
    replace hb14 := k72.heap hb14 n67
    replace hb30 := k72.heap hb30 n68
    replace hy54 := hy54.keeps k72 n69
    replace K := K.trans' k72 (fun i hi e => absurd (e ▸ hi) (Nat.not_lt.2 z66))
    clear hb64
    refine WL.op (d := 15) (.bool (decide (isCell (List.set (makeS l10 e n) (0 + (1 + r46).toNat * 1) u50)))) (k := ?_)
    refine WL.nil ?_
    refine WX.seqN ?_
    refine WC.seq ?_
    refine WC.region ?_
    refine WL.op (d := 60) (.bool true) (k := ?_)
    refine WL.op (d := 61) (.bool true) (k := ?_)
    refine WL.op (d := 62) (.bool true) (k := ?_)
    refine WL.op (d := 63) (.bool true) (k := ?_)
    refine WL.op (d := 64) (.bool true) (k := ?_)
    refine WL.load (v := .agg #[.string ⟨(l10).toArray⟩, .int .u64 ((e : Nat) : Int), .int .u64 ((n : Nat) : Int)]) (ldN (T := 24) (i := 0) (m := 3) (l := [.string ⟨(l10).toArray⟩, .int .u64 ((e : Nat) : Int), .int .u64 ((n : Nat) : Int)]) hb30) (k := ?_)
    refine WL.load (v := .agg #[.string ⟨(l10).toArray⟩, .int .u64 ((e : Nat) : Int), .int .u64 ((n : Nat) : Int)]) (ldN (T := 24) (i := 0) (m := 3) (l := [.string ⟨(l10).toArray⟩, .int .u64 ((e : Nat) : Int), .int .u64 ((n : Nat) : Int)]) hb14) (k := ?_)
    refine WL.bin (d := 67) (v := .bool true) (eqCellS l10 ((e : Nat) : Int) ((n : Nat) : Int) _) (k := ?_)
    refine WL.op (d := 68) (.bool true) (k := ?_)
    refine WL.op (d := 69) (.bool true) (k := ?_)
    refine WL.op (d := 70) (.bool (decide (isCell (List.set (makeS l10 e n) (0 + (1 + r46).toNat * 1) u50)))) (k := ?_)
    refine WL.op (d := 71) (.int .u8 (x.toNat : Int)) (k := ?_)
    refine WL.op (d := 72) (.bool ((x.toNat : Int) == 0)) (k := ?_)
    refine WL.opE (d := 73) (.bool ((decide (isCell (List.set (makeS l10 e n) (0 + (1 + r46).toNat * 1) u50))) == ((x.toNat : Int) == 0))) (v := .bool true) (congrArg Value.bool (fb_eq (make_cell (p := l10) (e := e) (n := n) (by first | omega | (simp; done)) (by omega) (by omega)) (k := 0 + (1 + r46).toNat * 1) (by omega) (by omega) hu51)) (k := ?_)
    refine WL.op (d := 74) (.bool true) (k := ?_)
    refine WL.op (d := 75) (.bool true) (k := ?_)
    refine WL.op (d := 76) (.string ⟨(makeS l10 e n).toArray⟩) (k := ?_)
    refine WL.op (d := 77) (.pointer (some ⟨b1, 1, none⟩)) (k := ?_)
    refine WL.load (v := .int .u64 ((e : Nat) : Int)) (ld1 (T := 22) (i := 1) hb14) (k := ?_)
    refine WL.op (d := 79) (.pointer (some ⟨b1, 2, none⟩)) (k := ?_)
    refine WL.load (v := .int .u64 ((n : Nat) : Int)) (ld1 (T := 22) (i := 2) hb14) (k := ?_)
    refine WL.callG (d := 81) (f := 21) (args := #[.string ⟨(makeS l10 e n).toArray⟩, .int .u64 ((e : Nat) : Int), .int .u64 ((n : Nat) : Int)]) (fWhole_me (p := l10) (e := e) (n := n) (by first | omega | (simp; done)) (by omega) (by omega) w70) (k := fun e_ w73 h_ => ⟨.bool true, h_.1, ?_⟩)
    have k74 := h_.2; clear h_
    replace hb14 := k74.heap hb14 id
    replace hb30 := k74.heap hb30 id
    replace hy54 := hy54.keeps k74 id
    replace hb71 := k74.heap hb71 id
    replace K := K.trans (k74.any _)
    refine WL.op (d := 82) (.bool true) (k := ?_)
    refine WL.op (d := 83) (.bool true) (k := ?_)
    refine WL.op (d := 84) (.string ⟨(makeS l10 e n).toArray⟩) (k := ?_)
    refine WL.op (d := 85) (.pointer (some ⟨b1, 1, none⟩)) (k := ?_)
    refine WL.load (v := .int .u64 ((e : Nat) : Int)) (ld1 (T := 22) (i := 1) hb14) (k := ?_)
    refine WL.opE (d := 87) (.int .u64 (IntKind.u64.wrap (((e : Nat) : Int) + 1))) (v := .int .u64 (((e + 1) % 18446744073709551616 : Nat) : Int)) (congrArg (Value.int .u64) (wrap_succ e)) (k := ?_)
    refine WL.op (d := 88) (.pointer (some ⟨b1, 2, none⟩)) (k := ?_)
    refine WL.load (v := .int .u64 ((n : Nat) : Int)) (ld1 (T := 22) (i := 2) hb14) (k := ?_)
    refine WL.callG (d := 90) (f := 21) (args := #[.string ⟨(makeS l10 e n).toArray⟩, .int .u64 (((e + 1) % 18446744073709551616 : Nat) : Int), .int .u64 ((n : Nat) : Int)]) (fWhole_mk (p := l10) (e := e) (n := n) (e' := (e + 1) % 18446744073709551616) (n' := n) (by first | omega | (simp; done)) (by omega) (by omega) w73) (k := fun e_ w75 h_ => ⟨.bool (decide (e = (e + 1) % 18446744073709551616 ∧ n = n)), h_.1, ?_⟩)
    have k76 := h_.2; clear h_
    replace hb14 := k76.heap hb14 id
    replace hb30 := k76.heap hb30 id
    replace hy54 := hy54.keeps k76 id
    replace hb71 := k76.heap hb71 id
    replace K := K.trans (k76.any _)
    refine WL.op (d := 91) (.bool (!(decide (e = (e + 1) % 18446744073709551616 ∧ n = n)))) (k := ?_)
    refine WL.op (d := 92) (.bool (!(decide (e = (e + 1) % 18446744073709551616 ∧ n = n)))) (k := ?_)
    refine WL.op (d := 6) (.bool (!(decide (e = (e + 1) % 18446744073709551616 ∧ n = n)))) (k := ?_)
    refine WL.nil ?_
    refine WX.seqN ?_
    refine WC.ret ?_
    refine WX.ret (rs := [.tmp 6]) [.bool (!(decide (e = (e + 1) % 18446744073709551616 ∧ n = n)))] (.bool (!(decide (e = (e + 1) % 18446744073709551616 ∧ n = n)))) ⟨(by kernel_rfl), trivial⟩ (k := ?_)
    exact ⟨ret_bool (by rw [decide_eq_false (fun h_ => by omega)]; rfl), K⟩

set_option maxRecDepth 100000 in
set_option maxHeartbeats 4000000 in
theorem lFrameTorn_c {p : List UInt8} {e n : Nat} (hpm : p.length ≤ 9223372036854775807) (he : e < 18446744073709551616) (hn : n < 18446744073709551616) {o : List UInt8} (hom : o.length ≤ 9223372036854775807) (at_ : Int) (w : World) : Calls Tryd.prog 5 #[.agg #[.string ⟨p.toArray⟩, .int .u64 (e : Int), .int .u64 (n : Int)], .string ⟨o.toArray⟩, .int .i64 at_] w fun e_ w' => e_ = .returned (.bool true) ∧ Adds w w' := by
  have K : Keeps (fun _ => False) w w := Keeps.refl _ w
  refine Calls.start Tryd.func5 rfl (by kernel_rfl) ?_
  refine WC.seq ?_
  refine WC.region ?_
  refine WL.new (d := 3) (T := 24) #[.string ⟨(p).toArray⟩, .int .u64 ((e : Nat) : Int), .int .u64 ((n : Nat) : Int)] (k := fun b1 w2 g3 hb4 k5 => ?_)
  have z6 := Nat.le_trans K.size g3
  replace K := K.trans (k5.any _)
  refine WL.op (d := 6) (.bool false) (k := ?_)
  refine WL.nil ?_
  refine WX.seqN ?_
  refine WC.seq ?_
  refine WC.region ?_
  refine WL.callG (d := 16) (f := 14) (args := #[]) (l04awake_c w2) (k := fun e_ w7 h_ => ⟨.bool true, h_.1, ?_⟩)
  have k8 := h_.2; clear h_
  replace hb4 := k8.heap hb4 id
  replace K := K.trans (k8.any _)
  refine WL.op (d := 7) (.bool true) (k := ?_)
  refine WL.nil ?_
  refine WX.seqN ?_
  refine WC.seq ?_
  refine WC.region ?_
  refine WL.op (d := 17) (.pointer (some ⟨b1, 0, none⟩)) (k := ?_)
  refine WL.load (v := .string ⟨(p).toArray⟩) (ld1 (T := 9) (i := 0) hb4) (k := ?_)
  refine WL.callG (d := 19) (f := 15) (args := #[.string ⟨(p).toArray⟩, .int .i64 43]) (l04short_c p 43 (by omega) (by show List.length p ≤ _; first | omega | (simp; done) | (simp; omega)) w7) (k := fun e_ w9 h_ => ?_)
  obtain ⟨l10, hl11, rfl, k12⟩ := h_
  refine ⟨_, rfl, ?_⟩
  replace hb4 := k12.heap hb4 id
  replace K := K.trans (k12.any _)
  refine WL.op (d := 20) (.pointer (some ⟨b1, 0, none⟩)) (k := ?_)
  refine WL.store (v := .string ⟨(l10).toArray⟩) (i := 0) (cs' := #[.string ⟨(l10).toArray⟩, .int .u64 ((e : Nat) : Int), .int .u64 ((n : Nat) : Int)]) hb4 (k := fun w13 hb14 k15 => ?_)
  replace K := K.trans' k15 (fun i hi e => absurd (e ▸ hi) (Nat.not_lt.2 z6))
  clear hb4
  refine WL.nil ?_
  refine WX.seqN ?_
  refine WC.seq ?_
  refine WC.region ?_
  refine WL.load (v := .agg #[.string ⟨(l10).toArray⟩, .int .u64 ((e : Nat) : Int), .int .u64 ((n : Nat) : Int)]) (ldN (T := 24) (i := 0) (m := 3) (l := [.string ⟨(l10).toArray⟩, .int .u64 ((e : Nat) : Int), .int .u64 ((n : Nat) : Int)]) hb14) (k := ?_)
  refine WL.callG (d := 23) (f := 23) (args := #[.agg #[.string ⟨(l10).toArray⟩, .int .u64 ((e : Nat) : Int), .int .u64 ((n : Nat) : Int)]]) (fMake_ok (p := l10) (e := e) (n := n) (by first | omega | (simp; done) | (simp; omega)) (by show List.length l10 ≤ _; first | omega | (simp; done) | (simp; omega)) (by omega) (by omega) w13) (k := fun e_ w17 h_ => ⟨.tuple #[.string ⟨(makeS l10 e n).toArray⟩, .int .i64 0], h_.1, ?_⟩)
  have k18 := h_.2; clear h_
  replace hb14 := k18.heap hb14 id
  replace K := K.trans (k18.any _)
  have ml16 := makeS_len (p := l10) (by first | omega | (simp; done) | (simp; omega)) e n
  refine WL.op (d := 21) (.tuple #[.string ⟨(makeS l10 e n).toArray⟩, .int .i64 0]) (k := ?_)
  refine WL.op (d := 24) (.string ⟨(makeS l10 e n).toArray⟩) (k := ?_)
  refine WL.op (d := 25) (.int .i64 0) (k := ?_)
  refine WL.op (d := 8) (.string ⟨(makeS l10 e n).toArray⟩) (k := ?_)
  refine WL.op (d := 9) (.int .i64 0) (k := ?_)
  refine WL.nil ?_
  refine WX.seqN ?_
  refine WC.seq ?_
  refine WC.seq ?_
  refine WC.region ?_
  refine WL.op (d := 26) (.int .i64 0) (k := ?_)
  refine WL.op (d := 27) (.bool false) (k := ?_)
  refine WL.op (d := 28) (.bool false) (k := ?_)
  refine WL.op (d := 29) (.string ⟨(makeS l10 e n).toArray⟩) (k := ?_)
  refine WL.op (d := 30) (.int .i64 ((makeS l10 e n).length : Int)) (k := ?_)
  refine WL.op (d := 31) (.bool (((makeS l10 e n).length : Int) != 64)) (k := ?_)
  refine WL.op (d := 32) (.bool (((makeS l10 e n).length : Int) != 64)) (k := ?_)
  refine WL.nil ?_
  refine WX.seqN ?_
  refine WC.cond (b := ((makeS l10 e n).length : Int) != 64) (ht := fun h19 => ?_) (hf := fun h19 => ?_)
  · have ph19 := bne_iff_ne.1 h19
    refine WC.seq ?_
    refine WC.region ?_
    refine WL.op (d := 6) (.bool false) (k := ?_)
    refine WL.nil ?_
    refine WX.seqN ?_
    refine WC.ret ?_
    refine WX.seqR ?_
    refine WX.ret (rs := [.tmp 6]) [.bool false] (.bool false) ⟨(by kernel_rfl), trivial⟩ (k := ?_)
    exfalso; omega
  · have ph19 := of_bne_false h19
    refine WC.skip ?_
    refine WX.seqN ?_
    refine WC.seq ?_
    refine WC.region ?_
    refine WL.newF (d := 33) (T := 5) (List.replicate 64 (Value.int .u8 0)).toArray (fun b => .slice (some ⟨b, 0, none⟩) 64 64) (k := fun b20 w21 g22 hb23 k24 => ?_)
    have z27 := Nat.le_trans K.size g22
    have n28 : b1 ≠ b20 := Nat.ne_of_lt (Nat.lt_of_lt_of_le (lt_of_heap hb14) g22)
    replace hb14 := k24.heap hb14 id
    replace K := K.trans (k24.any _)
    have ho25 := OwAt.made (N := 64) hb23 (by decide)
    have ol26 : ∀ i, blk (some ⟨b20, 0, none⟩) = some i → w.heap.size ≤ i := fun i e => by cases e; exact z27
    refine WL.op (d := 10) (.slice (some ⟨b20, 0, none⟩) 64 64) (k := ?_)
    refine WL.nil ?_
    refine WX.seqN ?_
    refine WC.seq ?_
    refine WC.region ?_
    refine WL.op (d := 34) (.slice (some ⟨b20, 0, none⟩) 64 64) (k := ?_)
    refine WL.op (d := 35) (.string ⟨(o).toArray⟩) (k := ?_)
    obtain ⟨w29, hc30, ho31, k32⟩ := run_copyB (s := o) ho25
    change OwAt u8C 1 5 (some ⟨b20, 0, none⟩) 64 (cpS o) w29 at ho31
    refine WL.copyB (d := 36) (vx := .slice (some ⟨b20, 0, none⟩) 64 64) (vy := .string ⟨(o).toArray⟩) (v := _) hc30 (k := ?_)
    clear hc30
    replace hb14 := (k32.mono fun k_ _ e_ => congrArg some e_.symm).heap hb14 (ho25.offT hb14 (by decide))
    replace K := K.trans' (k32.mono fun k_ _ e_ => congrArg some e_.symm) (fun i hi e => absurd hi (Nat.not_lt.2 (ol26 i e)))
    clear ho25
    refine WL.nil ?_
    refine WX.seqN ?_
    refine WC.seq ?_
    have cl_ := cpS_len o
    refine WC.region ?_
    refine WL.op (d := 37) (.int .i64 at_) (k := ?_)
    refine WL.bin (d := 38) (v := .int .i64 (Int.tmod at_ 65)) (rem_run (by omega)) (k := ?_)
    have m33 := tmod_rng at_ 65 (by omega)
    obtain ⟨r34, e35⟩ : ∃ r : Int, Int.tmod at_ 65 = r := ⟨_, rfl⟩
    rw [e35] at m33
    refine WL.rw (t := 38) (v := .int .i64 r34) (congrArg (Value.int .i64) e35) (k := ?_)
    refine WL.opE (d := 39) (.int .i64 (IntKind.i64.wrap (r34 + 65))) (v := .int .i64 (r34 + 65)) (congrArg (Value.int .i64) (IntWalk.i64_in _ (by omega))) (k := ?_)
    refine WL.bin (d := 40) (v := .int .i64 (Int.tmod (r34 + 65) 65)) (rem_run (by omega)) (k := ?_)
    have m36 := tmod_rng (r34 + 65) 65 (by omega)
    obtain ⟨r37, e38⟩ : ∃ r : Int, Int.tmod (r34 + 65) 65 = r := ⟨_, rfl⟩
    rw [e38] at m36
    refine WL.rw (t := 40) (v := .int .i64 r37) (congrArg (Value.int .i64) e38) (k := ?_)
    refine WL.op (d := 11) (.int .i64 r37) (k := ?_)
    refine WL.nil ?_
    refine WX.seqN ?_
    refine WC.seq ?_
    refine WC.mixed (fun _ => False) 8 (k := fun w39 k40 => ?_)
    replace hb14 := k40.heap hb14 id
    replace ho31 := ho31.adds k40
    replace K := K.trans (k40.any _)
    have KC := Keeps.refl (fun _ => False) w39
    have bh41 := hb14
    have Kb := K
    refine WA.quiet 0 (d := 41) (.string ⟨(makeS l10 e n).toArray⟩) KC (hi := rfl) (k := ?_)
    refine WA.quiet 1 (d := 42) (.int .i64 r37) KC (hi := rfl) (k := ?_)
    refine WA.quietR 2 (d := 43) (.string ⟨(List.take r37.toNat (makeS l10 e n)).toArray⟩) KC (exec_cut (vx := .string ⟨(makeS l10 e n).toArray⟩) (lo' := none) (hi' := (some (.int .i64 r37))) (mx' := none) (fun w_ => run_cut (P := Tryd.prog) (w := w_) (lo := none) (hi := (some (.int .i64 r37))) (T := 9) (a := 0) (b := r37.toNat) (l := (makeS l10 e n)) (by kernel_rfl) (.inl ⟨rfl, rfl⟩) (.inr ⟨_, _, rfl, by omega⟩) (by first | omega | (simp; omega)) (by first | omega | (simp; omega)))) (hi := rfl) (k := ?_)
    refine WA.quiet 3 (d := 44) (.slice (some ⟨b20, 0, none⟩) 64 64) KC (hi := rfl) (k := ?_)
    refine WA.quiet 4 (d := 45) (.int .i64 r37) KC (hi := rfl) (k := ?_)
    have hs42 := SlAt.cutD (a := r37.toNat) (c := 64) (ho31.sl ekU8) (by omega) (by omega)
    refine WA.quietR 5 (d := 46) (.slice (cutA (some ⟨b20, 0, none⟩) 64 r37.toNat 1) ((List.drop r37.toNat (cpS o)).length) (64 - r37.toNat)) KC (exec_cut (vx := .slice (some ⟨b20, 0, none⟩) 64 64) (lo' := (some (.int .i64 r37))) (hi' := none) (mx' := none) (fun _ => run_cutSl (a := r37.toNat) (b := 64) (c := 64) (m := 1) (E := 5) (by kernel_rfl) (by kernel_rfl) (.inl ⟨rfl, rfl⟩) (.inl ⟨rfl, rfl, rfl⟩) (.inr ⟨_, _, rfl, by omega⟩) (by omega) (by omega) rfl (by simp <;> omega) (by omega))) (hi := rfl) (k := ?_)
    refine WA.step 6 (hi := rfl) (k := ?_)
    refine WL.conv (d := 47) (vx := .slice (cutA (some ⟨b20, 0, none⟩) 64 r37.toNat 1) ((List.drop r37.toNat (cpS o)).length) (64 - r37.toNat)) (v := .string ⟨(List.drop r37.toNat (cpS o)).toArray⟩) (ofBytesSl (n := (List.drop r37.toNat (cpS o)).length) hs42 (by first | rfl | omega | (simp; omega))) (k := ?_)
    refine WL.nil ?_
    refine WX.nxt KC ?_
    refine WA.quietR 7 (d := 48) (.string ⟨((List.take r37.toNat (makeS l10 e n)) ++ (List.drop r37.toNat (cpS o))).toArray⟩) KC (exec_bin (fun _ => cat_run (by (try simp only [List.length_append, List.length_take, List.length_drop]); omega))) (hi := rfl) (k := ?_)
    refine WA.step 8 (hi := rfl) (k := ?_)
    refine WL.op (d := 12) (.string ⟨((List.take r37.toNat (makeS l10 e n)) ++ (List.drop r37.toNat (cpS o))).toArray⟩) (k := ?_)
    refine WL.nil ?_
    refine WX.nxtL ?_
    refine WA.done (k := ?_)
    clear KC
    refine WX.seqN ?_
    refine WC.seq ?_
    refine WC.region ?_
    refine WL.op (d := 50) (.slice (some ⟨b20, 0, none⟩) 64 64) (k := ?_)
    refine WL.conv (d := 51) (vx := .slice (some ⟨b20, 0, none⟩) 64 64) (v := .string ⟨((cpS o)).toArray⟩) (ofBytesSl (n := 64) (ho31.sl ekU8) (by first | rfl | omega | (simp; omega))) (k := ?_)
    refine WL.callG (d := 52) (f := 19) (args := #[.string ⟨((cpS o)).toArray⟩]) (fTag_c (l := (cpS o)) (by show List.length (cpS o) ≤ _; first | omega | (simp; done) | (simp; omega)) w39) (k := fun e_ w45 h_ => ⟨.tuple #[.int .u64 ((tgE (cpS o) : Nat) : Int), .int .u64 ((tgN (cpS o) : Nat) : Int), .bool (decide (List.length (cpS o) = 64))], h_.1, ?_⟩)
    have k46 := h_.2; clear h_
    replace hb14 := k46.heap hb14 id
    replace ho31 := ho31.adds k46
    replace hs42 := hs42.adds k46
    replace K := K.trans (k46.any _)
    have te43 := tgE_lt (cpS o)
    have te44 := tgN_lt (cpS o)
    refine WL.op (d := 49) (.tuple #[.int .u64 ((tgE (cpS o) : Nat) : Int), .int .u64 ((tgN (cpS o) : Nat) : Int), .bool (decide (List.length (cpS o) = 64))]) (k := ?_)
    refine WL.op (d := 53) (.int .u64 ((tgE (cpS o) : Nat) : Int)) (k := ?_)
    refine WL.op (d := 54) (.int .u64 ((tgN (cpS o) : Nat) : Int)) (k := ?_)
    refine WL.op (d := 55) (.bool (decide (List.length (cpS o) = 64))) (k := ?_)
    refine WL.op (d := 13) (.int .u64 ((tgE (cpS o) : Nat) : Int)) (k := ?_)
    refine WL.op (d := 14) (.int .u64 ((tgN (cpS o) : Nat) : Int)) (k := ?_)
    refine WL.op (d := 15) (.bool (decide (List.length (cpS o) = 64))) (k := ?_)
    refine WL.nil ?_
    refine WX.seqN ?_
    refine WC.seq ?_
    refine WC.seq ?_
    refine WC.region ?_
    refine WL.op (d := 56) (.bool (decide (List.length (cpS o) = 64))) (k := ?_)
    refine WL.op (d := 57) (.bool (!(decide (List.length (cpS o) = 64)))) (k := ?_)
    refine WL.nil ?_
    refine WX.seqN ?_
    refine WC.cond (b := !(decide (List.length (cpS o) = 64))) (ht := fun h47 => ?_) (hf := fun h47 => ?_)
    · have h48 : (decide (List.length (cpS o) = 64)) = false := Bool.not_inj (y := false) h47
      have ph48 := of_decide_eq_false h48
      refine WC.seq ?_
      refine WC.region ?_
      refine WL.op (d := 6) (.bool false) (k := ?_)
      refine WL.nil ?_
      refine WX.seqN ?_
      refine WC.ret ?_
      refine WX.seqR ?_
      refine WX.ret (rs := [.tmp 6]) [.bool false] (.bool false) ⟨(by kernel_rfl), trivial⟩ (k := ?_)
      exfalso; omega
    · have h49 : (decide (List.length (cpS o) = 64)) = true := Bool.not_inj (y := true) h47
      have ph49 := of_decide_eq_true h49
      refine WC.skip ?_
      refine WX.seqN ?_
      refine WC.seq ?_
      refine WC.seq ?_
      refine WC.region ?_
      refine WL.op (d := 58) (.int .u64 ((tgE (cpS o) : Nat) : Int)) (k := ?_)
      refine WL.op (d := 59) (.pointer (some ⟨b1, 1, none⟩)) (k := ?_)
      refine WL.load (v := .int .u64 ((e : Nat) : Int)) (ld1 (T := 22) (i := 1) hb14) (k := ?_)
      refine WL.op (d := 61) (.bool (((tgE (cpS o) : Nat) : Int) == ((e : Nat) : Int))) (k := ?_)
      refine WL.op (d := 62) (.bool (((tgE (cpS o) : Nat) : Int) == ((e : Nat) : Int))) (k := ?_)
      refine bsplit (((tgE (cpS o) : Nat) : Int) == ((e : Nat) : Int)) (fun h50 => ?_) (fun h50 => ?_)
      · have ph50 := eq_of_beq h50
        refine WL.rw (t := 62) (v := .bool true) (congrArg Value.bool h50) (k := ?_)
        refine WL.op (d := 63) (.int .u64 ((tgN (cpS o) : Nat) : Int)) (k := ?_)
        refine WL.op (d := 64) (.pointer (some ⟨b1, 2, none⟩)) (k := ?_)
        refine WL.load (v := .int .u64 ((n : Nat) : Int)) (ld1 (T := 22) (i := 2) hb14) (k := ?_)
        refine WL.op (d := 66) (.bool (((tgN (cpS o) : Nat) : Int) == ((n : Nat) : Int))) (k := ?_)
        refine WL.op (d := 67) (.bool (((tgN (cpS o) : Nat) : Int) == ((n : Nat) : Int))) (k := ?_)
        refine WL.nil ?_
        refine WX.seqN ?_
        refine WC.cond (b := ((tgN (cpS o) : Nat) : Int) == ((n : Nat) : Int)) (ht := fun h51 => ?_) (hf := fun h51 => ?_)
        · have ph51 := eq_of_beq h51
          refine WC.seq ?_
          refine WC.region ?_
          refine WL.op (d := 68) (.bool true) (k := ?_)
          refine WL.op (d := 6) (.bool true) (k := ?_)
          refine WL.nil ?_
          refine WX.seqN ?_
          refine WC.ret ?_
          refine WX.seqR ?_
          refine WX.ret (rs := [.tmp 6]) [.bool true] (.bool true) ⟨(by kernel_rfl), trivial⟩ (k := ?_)
          exact ⟨rfl, K⟩
        · have ph51 := ne_of_beq_false h51
          refine WC.skip ?_
          refine WX.seqN ?_
          refine WC.seq ?_
          refine WC.region ?_
          refine WL.op (d := 69) (.bool true) (k := ?_)
          refine WL.op (d := 70) (.bool true) (k := ?_)
          refine WL.op (d := 71) (.string ⟨((List.take r37.toNat (makeS l10 e n)) ++ (List.drop r37.toNat (cpS o))).toArray⟩) (k := ?_)
          refine WL.op (d := 72) (.pointer (some ⟨b1, 1, none⟩)) (k := ?_)
          refine WL.load (v := .int .u64 ((e : Nat) : Int)) (ld1 (T := 22) (i := 1) hb14) (k := ?_)
          refine WL.op (d := 74) (.pointer (some ⟨b1, 2, none⟩)) (k := ?_)
          refine WL.load (v := .int .u64 ((n : Nat) : Int)) (ld1 (T := 22) (i := 2) hb14) (k := ?_)
          refine WL.callG (d := 76) (f := 21) (args := #[.string ⟨((List.take r37.toNat (makeS l10 e n)) ++ (List.drop r37.toNat (cpS o))).toArray⟩, .int .u64 ((e : Nat) : Int), .int .u64 ((n : Nat) : Int)]) (fWhole_c (l := (List.take r37.toNat (makeS l10 e n)) ++ (List.drop r37.toNat (cpS o))) (e := e) (n := n) (by show List.length ((List.take r37.toNat (makeS l10 e n)) ++ (List.drop r37.toNat (cpS o))) ≤ _; first | omega | (simp; done) | (simp; omega)) w45) (k := fun e_ w52 h_ => ⟨.bool (decide (isCell ((List.take r37.toNat (makeS l10 e n)) ++ (List.drop r37.toNat (cpS o))) ∧ rdE ((List.take r37.toNat (makeS l10 e n)) ++ (List.drop r37.toNat (cpS o))) = e ∧ rdN ((List.take r37.toNat (makeS l10 e n)) ++ (List.drop r37.toNat (cpS o))) = n)), h_.1, ?_⟩)
          have k53 := h_.2; clear h_
          replace hb14 := k53.heap hb14 id
          replace ho31 := ho31.adds k53
          replace hs42 := hs42.adds k53
          replace K := K.trans (k53.any _)
          refine WL.op (d := 77) (.string ⟨((List.take r37.toNat (makeS l10 e n)) ++ (List.drop r37.toNat (cpS o))).toArray⟩) (k := ?_)
          refine WL.op (d := 78) (.string ⟨(makeS l10 e n).toArray⟩) (k := ?_)
          refine WL.opE (d := 79) (.bool (ByteArray.toList ⟨((List.take r37.toNat (makeS l10 e n)) ++ (List.drop r37.toNat (cpS o))).toArray⟩ == ByteArray.toList ⟨(makeS l10 e n).toArray⟩)) (v := .bool (decide ((List.take r37.toNat (makeS l10 e n)) ++ (List.drop r37.toNat (cpS o)) = makeS l10 e n))) (str_eql _ _) (k := ?_)
          refine WL.opE (d := 80) (.bool ((decide (isCell ((List.take r37.toNat (makeS l10 e n)) ++ (List.drop r37.toNat (cpS o))) ∧ rdE ((List.take r37.toNat (makeS l10 e n)) ++ (List.drop r37.toNat (cpS o))) = e ∧ rdN ((List.take r37.toNat (makeS l10 e n)) ++ (List.drop r37.toNat (cpS o))) = n)) == (decide ((List.take r37.toNat (makeS l10 e n)) ++ (List.drop r37.toNat (cpS o)) = makeS l10 e n)))) (v := .bool true) (congrArg Value.bool (tn_eq (by first | omega | (simp; done)) (by omega) (by omega) (by omega) (by omega) (by omega))) (k := ?_)
          refine WL.op (d := 81) (.bool true) (k := ?_)
          refine WL.op (d := 6) (.bool true) (k := ?_)
          refine WL.nil ?_
          refine WX.seqN ?_
          refine WC.ret ?_
          refine WX.ret (rs := [.tmp 6]) [.bool true] (.bool true) ⟨(by kernel_rfl), trivial⟩ (k := ?_)
          exact ⟨rfl, K⟩
      · have ph50 := ne_of_beq_false h50
        refine WL.rw (t := 62) (v := .bool false) (congrArg Value.bool h50) (k := ?_)
        refine WL.skip (d := 63) (k := ?_)
        refine WL.skip (d := 64) (k := ?_)
        refine WL.skip (d := 65) (k := ?_)
        refine WL.skip (d := 66) (k := ?_)
        refine WL.op (d := 67) (.bool false) (k := ?_)
        refine WL.nil ?_
        refine WX.seqN ?_
        refine WC.condF (k := ?_)
        refine WC.skip ?_
        refine WX.seqN ?_
        refine WC.seq ?_
        refine WC.region ?_
        refine WL.op (d := 69) (.bool true) (k := ?_)
        refine WL.op (d := 70) (.bool true) (k := ?_)
        refine WL.op (d := 71) (.string ⟨((List.take r37.toNat (makeS l10 e n)) ++ (List.drop r37.toNat (cpS o))).toArray⟩) (k := ?_)
        refine WL.op (d := 72) (.pointer (some ⟨b1, 1, none⟩)) (k := ?_)
        refine WL.load (v := .int .u64 ((e : Nat) : Int)) (ld1 (T := 22) (i := 1) hb14) (k := ?_)
        refine WL.op (d := 74) (.pointer (some ⟨b1, 2, none⟩)) (k := ?_)
        refine WL.load (v := .int .u64 ((n : Nat) : Int)) (ld1 (T := 22) (i := 2) hb14) (k := ?_)
        refine WL.callG (d := 76) (f := 21) (args := #[.string ⟨((List.take r37.toNat (makeS l10 e n)) ++ (List.drop r37.toNat (cpS o))).toArray⟩, .int .u64 ((e : Nat) : Int), .int .u64 ((n : Nat) : Int)]) (fWhole_c (l := (List.take r37.toNat (makeS l10 e n)) ++ (List.drop r37.toNat (cpS o))) (e := e) (n := n) (by show List.length ((List.take r37.toNat (makeS l10 e n)) ++ (List.drop r37.toNat (cpS o))) ≤ _; first | omega | (simp; done) | (simp; omega)) w45) (k := fun e_ w54 h_ => ⟨.bool (decide (isCell ((List.take r37.toNat (makeS l10 e n)) ++ (List.drop r37.toNat (cpS o))) ∧ rdE ((List.take r37.toNat (makeS l10 e n)) ++ (List.drop r37.toNat (cpS o))) = e ∧ rdN ((List.take r37.toNat (makeS l10 e n)) ++ (List.drop r37.toNat (cpS o))) = n)), h_.1, ?_⟩)
        have k55 := h_.2; clear h_
        replace hb14 := k55.heap hb14 id
        replace ho31 := ho31.adds k55
        replace hs42 := hs42.adds k55
        replace K := K.trans (k55.any _)
        refine WL.op (d := 77) (.string ⟨((List.take r37.toNat (makeS l10 e n)) ++ (List.drop r37.toNat (cpS o))).toArray⟩) (k := ?_)
        refine WL.op (d := 78) (.string ⟨(makeS l10 e n).toArray⟩) (k := ?_)
        refine WL.opE (d := 79) (.bool (ByteArray.toList ⟨((List.take r37.toNat (makeS l10 e n)) ++ (List.drop r37.toNat (cpS o))).toArray⟩ == ByteArray.toList ⟨(makeS l10 e n).toArray⟩)) (v := .bool (decide ((List.take r37.toNat (makeS l10 e n)) ++ (List.drop r37.toNat (cpS o)) = makeS l10 e n))) (str_eql _ _) (k := ?_)
        refine WL.opE (d := 80) (.bool ((decide (isCell ((List.take r37.toNat (makeS l10 e n)) ++ (List.drop r37.toNat (cpS o))) ∧ rdE ((List.take r37.toNat (makeS l10 e n)) ++ (List.drop r37.toNat (cpS o))) = e ∧ rdN ((List.take r37.toNat (makeS l10 e n)) ++ (List.drop r37.toNat (cpS o))) = n)) == (decide ((List.take r37.toNat (makeS l10 e n)) ++ (List.drop r37.toNat (cpS o)) = makeS l10 e n)))) (v := .bool true) (congrArg Value.bool (tn_eq (by first | omega | (simp; done)) (by omega) (by omega) (by omega) (by omega) (by omega))) (k := ?_)
        refine WL.op (d := 81) (.bool true) (k := ?_)
        refine WL.op (d := 6) (.bool true) (k := ?_)
        refine WL.nil ?_
        refine WX.seqN ?_
        refine WC.ret ?_
        refine WX.ret (rs := [.tmp 6]) [.bool true] (.bool true) ⟨(by kernel_rfl), trivial⟩ (k := ?_)
        exact ⟨rfl, K⟩

theorem u04Same_s {A B : Option Addr} {cp cq : Nat} {xs : List (List UInt8)} {w : World} (hA : SlAt strC 1 9 A xs w) (hB : SlAt strC 1 9 B xs w) (hn : xs.length ≤ 1000000000) : Calls Tryd.prog 24 #[.slice A xs.length cp, .slice B xs.length cq] w fun e w' => e = .returned (.bool true) ∧ Adds w w' := by
  refine (u04Same_c (cp := cp) (cq := cq) hA hB hn hn).mono ?_
  rintro e w' ⟨h, k⟩
  exact ⟨h.trans (ret_bool (by simp)), k⟩

set_option maxRecDepth 100000 in
set_option maxHeartbeats 4000000 in
theorem lFrameMakes_c {p : List UInt8} {e n : Nat} (hpm : p.length ≤ 9223372036854775807) (he : e < 18446744073709551616) (hn : n < 18446744073709551616) {o : List UInt8} (hom : o.length ≤ 9223372036854775807) (w : World) : Calls Tryd.prog 6 #[.agg #[.string ⟨p.toArray⟩, .int .u64 (e : Int), .int .u64 (n : Int)], .string ⟨o.toArray⟩] w fun e_ w' => e_ = .returned (.bool true) ∧ Adds w w' := by
  have K : Keeps (fun _ => False) w w := Keeps.refl _ w
  refine Calls.start Tryd.func6 rfl (by kernel_rfl) ?_
  refine WC.seq ?_
  refine WC.region ?_
  refine WL.new (d := 2) (T := 24) #[.string ⟨(p).toArray⟩, .int .u64 ((e : Nat) : Int), .int .u64 ((n : Nat) : Int)] (k := fun b1 w2 g3 hb4 k5 => ?_)
  have z6 := Nat.le_trans K.size g3
  replace K := K.trans (k5.any _)
  refine WL.op (d := 4) (.bool false) (k := ?_)
  refine WL.nil ?_
  refine WX.seqN ?_
  refine WC.seq ?_
  refine WC.region ?_
  refine WL.callG (d := 11) (f := 14) (args := #[]) (l04awake_c w2) (k := fun e_ w7 h_ => ⟨.bool true, h_.1, ?_⟩)
  have k8 := h_.2; clear h_
  replace hb4 := k8.heap hb4 id
  replace K := K.trans (k8.any _)
  refine WL.op (d := 5) (.bool true) (k := ?_)
  refine WL.nil ?_
  refine WX.seqN ?_
  refine WC.seq ?_
  refine WC.region ?_
  refine WL.op (d := 12) (.pointer (some ⟨b1, 0, none⟩)) (k := ?_)
  refine WL.load (v := .string ⟨(p).toArray⟩) (ld1 (T := 9) (i := 0) hb4) (k := ?_)
  refine WL.callG (d := 14) (f := 15) (args := #[.string ⟨(p).toArray⟩, .int .i64 50]) (l04short_c p 50 (by omega) (by show List.length p ≤ _; first | omega | (simp; done) | (simp; omega)) w7) (k := fun e_ w9 h_ => ?_)
  obtain ⟨l10, hl11, rfl, k12⟩ := h_
  refine ⟨_, rfl, ?_⟩
  replace hb4 := k12.heap hb4 id
  replace K := K.trans (k12.any _)
  refine WL.op (d := 15) (.pointer (some ⟨b1, 0, none⟩)) (k := ?_)
  refine WL.store (v := .string ⟨(l10).toArray⟩) (i := 0) (cs' := #[.string ⟨(l10).toArray⟩, .int .u64 ((e : Nat) : Int), .int .u64 ((n : Nat) : Int)]) hb4 (k := fun w13 hb14 k15 => ?_)
  replace K := K.trans' k15 (fun i hi e => absurd (e ▸ hi) (Nat.not_lt.2 z6))
  clear hb4
  refine WL.nil ?_
  refine WX.seqN ?_
  refine WC.seq ?_
  refine WC.region ?_
  refine WL.op (d := 16) (.string ⟨(o).toArray⟩) (k := ?_)
  refine WL.callG (d := 17) (f := 15) (args := #[.string ⟨(o).toArray⟩, .int .i64 200]) (l04short_c o 200 (by omega) (by show List.length o ≤ _; first | omega | (simp; done) | (simp; omega)) w13) (k := fun e_ w16 h_ => ?_)
  obtain ⟨l17, hl18, rfl, k19⟩ := h_
  refine ⟨_, rfl, ?_⟩
  replace hb14 := k19.heap hb14 id
  replace K := K.trans (k19.any _)
  refine WL.op (d := 1) (.string ⟨(l17).toArray⟩) (k := ?_)
  refine WL.nil ?_
  refine WX.seqN ?_
  refine WC.seq ?_
  refine WC.region ?_
  refine WL.load (v := .agg #[.string ⟨(l10).toArray⟩, .int .u64 ((e : Nat) : Int), .int .u64 ((n : Nat) : Int)]) (ldN (T := 24) (i := 0) (m := 3) (l := [.string ⟨(l10).toArray⟩, .int .u64 ((e : Nat) : Int), .int .u64 ((n : Nat) : Int)]) hb14) (k := ?_)
  refine bsplit (decide (List.length l10 ≤ 43)) (fun h20 => ?_) (fun h20 => ?_)
  · have ph20 := of_decide_eq_true h20
    refine WL.callG (d := 20) (f := 23) (args := #[.agg #[.string ⟨(l10).toArray⟩, .int .u64 ((e : Nat) : Int), .int .u64 ((n : Nat) : Int)]]) (fMake_ok (p := l10) (e := e) (n := n) ph20 (by show List.length l10 ≤ _; first | omega | (simp; done) | (simp; omega)) (by omega) (by omega) w16) (k := fun e_ w22 h_ => ⟨.tuple #[.string ⟨(makeS l10 e n).toArray⟩, .int .i64 0], h_.1, ?_⟩)
    have k23 := h_.2; clear h_
    replace hb14 := k23.heap hb14 id
    replace K := K.trans (k23.any _)
    have ml21 := makeS_len (p := l10) ph20 e n
    refine WL.op (d := 18) (.tuple #[.string ⟨(makeS l10 e n).toArray⟩, .int .i64 0]) (k := ?_)
    refine WL.op (d := 21) (.string ⟨(makeS l10 e n).toArray⟩) (k := ?_)
    refine WL.op (d := 22) (.int .i64 0) (k := ?_)
    refine WL.op (d := 6) (.string ⟨(makeS l10 e n).toArray⟩) (k := ?_)
    refine WL.op (d := 7) (.int .i64 0) (k := ?_)
    refine WL.nil ?_
    refine WX.seqN ?_
    refine WC.seq ?_
    refine WC.region ?_
    refine WL.load (v := .agg #[.string ⟨(l10).toArray⟩, .int .u64 ((e : Nat) : Int), .int .u64 ((n : Nat) : Int)]) (ldN (T := 24) (i := 0) (m := 3) (l := [.string ⟨(l10).toArray⟩, .int .u64 ((e : Nat) : Int), .int .u64 ((n : Nat) : Int)]) hb14) (k := ?_)
    refine WL.callG (d := 25) (f := 16) (args := #[.agg #[.string ⟨(l10).toArray⟩, .int .u64 ((e : Nat) : Int), .int .u64 ((n : Nat) : Int)]]) (u04Make_ok (p := l10) (e := e) (n := n) ph20 (by show List.length l10 ≤ _; first | omega | (simp; done) | (simp; omega)) (by omega) (by omega) w22) (k := fun e_ w25 h_ => ⟨.tuple #[.string ⟨(makeS l10 e n).toArray⟩, .int .i64 0], h_.1, ?_⟩)
    have k26 := h_.2; clear h_
    replace hb14 := k26.heap hb14 id
    replace K := K.trans (k26.any _)
    have ml24 := makeS_len (p := l10) ph20 e n
    refine WL.op (d := 23) (.tuple #[.string ⟨(makeS l10 e n).toArray⟩, .int .i64 0]) (k := ?_)
    refine WL.op (d := 26) (.string ⟨(makeS l10 e n).toArray⟩) (k := ?_)
    refine WL.op (d := 27) (.int .i64 0) (k := ?_)
    refine WL.op (d := 8) (.string ⟨(makeS l10 e n).toArray⟩) (k := ?_)
    refine WL.op (d := 9) (.int .i64 0) (k := ?_)
    refine WL.nil ?_
    refine WX.seqN ?_
    refine WC.seq ?_
    refine WC.region ?_
    refine WL.op (d := 28) (.string ⟨(l17).toArray⟩) (k := ?_)
    refine WL.callG (d := 29) (f := 25) (args := #[.string ⟨(l17).toArray⟩]) (fChunks_c (l := l17) (by show List.length l17 ≤ _; first | omega | (simp; done) | (simp; omega)) w25) (k := fun e_ w28 h_ => ?_)
    obtain ⟨A29, c30, rfl, ho31, k32, ol33⟩ := h_
    refine ⟨_, rfl, ?_⟩
    have ol34 := fun i h => Nat.le_trans K.size (ol33 i h)
    replace hb14 := k32.heap hb14 id
    replace K := K.trans (k32.any _)
    clear ol33
    have cl27 := chunks_len (l := l17)
    refine WL.op (d := 30) (.string ⟨(l17).toArray⟩) (k := ?_)
    refine WL.callG (d := 31) (f := 26) (args := #[.string ⟨(l17).toArray⟩]) (u04Chunks_c (l := l17) (by show List.length l17 ≤ _; first | omega | (simp; done) | (simp; omega)) w28) (k := fun e_ w36 h_ => ?_)
    obtain ⟨A37, c38, rfl, ho39, k40, ol41⟩ := h_
    refine ⟨_, rfl, ?_⟩
    have ol42 := fun i h => Nat.le_trans K.size (ol41 i h)
    replace hb14 := k40.heap hb14 id
    replace ho31 := ho31.adds k40
    replace K := K.trans (k40.any _)
    clear ol41
    have cl35 := chunks_len (l := l17)
    refine WL.callG (d := 32) (f := 24) (args := #[.slice A29 ((chunks l17).length) c30, .slice A37 ((chunks l17).length) c38]) (u04Same_s (cp := c30) (cq := c38) (ho31.sl ekStr) (ho39.sl ekStr) (by omega)) (k := fun e_ w43 h_ => ⟨.bool true, h_.1, ?_⟩)
    have k44 := h_.2; clear h_
    replace hb14 := k44.heap hb14 id
    replace ho31 := ho31.adds k44
    replace ho39 := ho39.adds k44
    replace K := K.trans (k44.any _)
    refine WL.op (d := 10) (.bool true) (k := ?_)
    refine WL.nil ?_
    refine WX.seqN ?_
    refine WC.seq ?_
    refine WC.region ?_
    refine WL.op (d := 33) (.bool true) (k := ?_)
    refine WL.op (d := 34) (.bool true) (k := ?_)
    refine WL.op (d := 35) (.string ⟨(makeS l10 e n).toArray⟩) (k := ?_)
    refine WL.op (d := 36) (.string ⟨(makeS l10 e n).toArray⟩) (k := ?_)
    refine WL.opE (d := 37) (.bool (ByteArray.toList ⟨(makeS l10 e n).toArray⟩ == ByteArray.toList ⟨(makeS l10 e n).toArray⟩)) (v := .bool true) (str_eqs _) (k := ?_)
    refine WL.op (d := 38) (.bool true) (k := ?_)
    refine WL.op (d := 39) (.bool true) (k := ?_)
    refine WL.op (d := 40) (.int .i64 0) (k := ?_)
    refine WL.op (d := 41) (.int .i64 0) (k := ?_)
    refine WL.op (d := 42) (.bool true) (k := ?_)
    refine WL.op (d := 43) (.bool true) (k := ?_)
    refine WL.op (d := 44) (.bool true) (k := ?_)
    refine WL.op (d := 45) (.bool true) (k := ?_)
    refine WL.op (d := 46) (.bool true) (k := ?_)
    refine WL.op (d := 4) (.bool true) (k := ?_)
    refine WL.nil ?_
    refine WX.seqN ?_
    refine WC.ret ?_
    refine WX.ret (rs := [.tmp 4]) [.bool true] (.bool true) ⟨(by kernel_rfl), trivial⟩ (k := ?_)
    exact ⟨rfl, K⟩
  · have ph20 := of_decide_eq_false h20
    refine WL.callG (d := 20) (f := 23) (args := #[.agg #[.string ⟨(l10).toArray⟩, .int .u64 ((e : Nat) : Int), .int .u64 ((n : Nat) : Int)]]) (fMake_no (p := l10) (e := e) (n := n) ph20 (by show List.length l10 ≤ _; first | omega | (simp; done) | (simp; omega)) (by omega) (by omega) w16) (k := fun e_ w45 h_ => ⟨.tuple #[.string ⟨#[]⟩, .int .i64 1], h_.1, ?_⟩)
    have k46 := h_.2; clear h_
    replace hb14 := k46.heap hb14 id
    replace K := K.trans (k46.any _)
    refine WL.op (d := 18) (.tuple #[.string ⟨#[]⟩, .int .i64 1]) (k := ?_)
    refine WL.op (d := 21) (.string ⟨#[]⟩) (k := ?_)
    refine WL.op (d := 22) (.int .i64 1) (k := ?_)
    refine WL.op (d := 6) (.string ⟨#[]⟩) (k := ?_)
    refine WL.op (d := 7) (.int .i64 1) (k := ?_)
    refine WL.nil ?_
    refine WX.seqN ?_
    refine WC.seq ?_
    refine WC.region ?_
    refine WL.load (v := .agg #[.string ⟨(l10).toArray⟩, .int .u64 ((e : Nat) : Int), .int .u64 ((n : Nat) : Int)]) (ldN (T := 24) (i := 0) (m := 3) (l := [.string ⟨(l10).toArray⟩, .int .u64 ((e : Nat) : Int), .int .u64 ((n : Nat) : Int)]) hb14) (k := ?_)
    refine WL.callG (d := 25) (f := 16) (args := #[.agg #[.string ⟨(l10).toArray⟩, .int .u64 ((e : Nat) : Int), .int .u64 ((n : Nat) : Int)]]) (u04Make_no (p := l10) (e := e) (n := n) ph20 (by show List.length l10 ≤ _; first | omega | (simp; done) | (simp; omega)) (by omega) (by omega) w45) (k := fun e_ w47 h_ => ⟨.tuple #[.string ⟨#[]⟩, .int .i64 1], h_.1, ?_⟩)
    have k48 := h_.2; clear h_
    replace hb14 := k48.heap hb14 id
    replace K := K.trans (k48.any _)
    refine WL.op (d := 23) (.tuple #[.string ⟨#[]⟩, .int .i64 1]) (k := ?_)
    refine WL.op (d := 26) (.string ⟨#[]⟩) (k := ?_)
    refine WL.op (d := 27) (.int .i64 1) (k := ?_)
    refine WL.op (d := 8) (.string ⟨#[]⟩) (k := ?_)
    refine WL.op (d := 9) (.int .i64 1) (k := ?_)
    refine WL.nil ?_
    refine WX.seqN ?_
    refine WC.seq ?_
    refine WC.region ?_
    refine WL.op (d := 28) (.string ⟨(l17).toArray⟩) (k := ?_)
    refine WL.callG (d := 29) (f := 25) (args := #[.string ⟨(l17).toArray⟩]) (fChunks_c (l := l17) (by show List.length l17 ≤ _; first | omega | (simp; done) | (simp; omega)) w47) (k := fun e_ w50 h_ => ?_)
    obtain ⟨A51, c52, rfl, ho53, k54, ol55⟩ := h_
    refine ⟨_, rfl, ?_⟩
    have ol56 := fun i h => Nat.le_trans K.size (ol55 i h)
    replace hb14 := k54.heap hb14 id
    replace K := K.trans (k54.any _)
    clear ol55
    have cl49 := chunks_len (l := l17)
    refine WL.op (d := 30) (.string ⟨(l17).toArray⟩) (k := ?_)
    refine WL.callG (d := 31) (f := 26) (args := #[.string ⟨(l17).toArray⟩]) (u04Chunks_c (l := l17) (by show List.length l17 ≤ _; first | omega | (simp; done) | (simp; omega)) w50) (k := fun e_ w58 h_ => ?_)
    obtain ⟨A59, c60, rfl, ho61, k62, ol63⟩ := h_
    refine ⟨_, rfl, ?_⟩
    have ol64 := fun i h => Nat.le_trans K.size (ol63 i h)
    replace hb14 := k62.heap hb14 id
    replace ho53 := ho53.adds k62
    replace K := K.trans (k62.any _)
    clear ol63
    have cl57 := chunks_len (l := l17)
    refine WL.callG (d := 32) (f := 24) (args := #[.slice A51 ((chunks l17).length) c52, .slice A59 ((chunks l17).length) c60]) (u04Same_s (cp := c52) (cq := c60) (ho53.sl ekStr) (ho61.sl ekStr) (by omega)) (k := fun e_ w65 h_ => ⟨.bool true, h_.1, ?_⟩)
    have k66 := h_.2; clear h_
    replace hb14 := k66.heap hb14 id
    replace ho53 := ho53.adds k66
    replace ho61 := ho61.adds k66
    replace K := K.trans (k66.any _)
    refine WL.op (d := 10) (.bool true) (k := ?_)
    refine WL.nil ?_
    refine WX.seqN ?_
    refine WC.seq ?_
    refine WC.region ?_
    refine WL.op (d := 33) (.bool true) (k := ?_)
    refine WL.op (d := 34) (.bool true) (k := ?_)
    refine WL.op (d := 35) (.string ⟨#[]⟩) (k := ?_)
    refine WL.op (d := 36) (.string ⟨#[]⟩) (k := ?_)
    refine WL.op (d := 37) (.bool true) (k := ?_)
    refine WL.op (d := 38) (.bool true) (k := ?_)
    refine WL.op (d := 39) (.bool true) (k := ?_)
    refine WL.op (d := 40) (.int .i64 1) (k := ?_)
    refine WL.op (d := 41) (.int .i64 1) (k := ?_)
    refine WL.op (d := 42) (.bool true) (k := ?_)
    refine WL.op (d := 43) (.bool true) (k := ?_)
    refine WL.op (d := 44) (.bool true) (k := ?_)
    refine WL.op (d := 45) (.bool true) (k := ?_)
    refine WL.op (d := 46) (.bool true) (k := ?_)
    refine WL.op (d := 4) (.bool true) (k := ?_)
    refine WL.nil ?_
    refine WX.seqN ?_
    refine WC.ret ?_
    refine WX.ret (rs := [.tmp 4]) [.bool true] (.bool true) ⟨(by kernel_rfl), trivial⟩ (k := ?_)
    exact ⟨rfl, K⟩

set_option maxRecDepth 100000 in
set_option maxHeartbeats 4000000 in
theorem lFrameReads_c {p : List UInt8} {e n : Nat} (hpm : p.length ≤ 9223372036854775807) (he : e < 18446744073709551616) (hn : n < 18446744073709551616) {o : List UInt8} (hom : o.length ≤ 9223372036854775807) (s0 s1 s2 : Int) (w : World) : Calls Tryd.prog 3 #[.agg #[.string ⟨p.toArray⟩, .int .u64 (e : Int), .int .u64 (n : Int)], .string ⟨o.toArray⟩, .agg #[.int .i64 s0, .int .i64 s1, .int .i64 s2]] w fun e_ w' => e_ = .returned (.bool true) ∧ Adds w w' := by
  have K : Keeps (fun _ => False) w w := Keeps.refl _ w
  refine Calls.start Tryd.func3 rfl (by kernel_rfl) ?_
  refine WC.seq ?_
  refine WC.region ?_
  refine WL.new (d := 3) (T := 24) #[.string ⟨(p).toArray⟩, .int .u64 ((e : Nat) : Int), .int .u64 ((n : Nat) : Int)] (k := fun b1 w2 g3 hb4 k5 => ?_)
  have z6 := Nat.le_trans K.size g3
  replace K := K.trans (k5.any _)
  refine WL.new (d := 5) (T := 25) #[.int .i64 s0, .int .i64 s1, .int .i64 s2] (k := fun b7 w8 g9 hb10 k11 => ?_)
  have z12 := Nat.le_trans K.size g9
  have n13 : b1 ≠ b7 := Nat.ne_of_lt (Nat.lt_of_lt_of_le (lt_of_heap hb4) g9)
  replace hb4 := k11.heap hb4 id
  replace K := K.trans (k11.any _)
  refine WL.op (d := 6) (.bool false) (k := ?_)
  refine WL.nil ?_
  refine WX.seqN ?_
  refine WC.seq ?_
  refine WC.region ?_
  refine WL.callG (d := 20) (f := 14) (args := #[]) (l04awake_c w8) (k := fun e_ w14 h_ => ⟨.bool true, h_.1, ?_⟩)
  have k15 := h_.2; clear h_
  replace hb4 := k15.heap hb4 id
  replace hb10 := k15.heap hb10 id
  replace K := K.trans (k15.any _)
  refine WL.op (d := 7) (.bool true) (k := ?_)
  refine WL.nil ?_
  refine WX.seqN ?_
  refine WC.seq ?_
  refine WC.region ?_
  refine WL.op (d := 21) (.string ⟨(o).toArray⟩) (k := ?_)
  refine WL.callG (d := 22) (f := 15) (args := #[.string ⟨(o).toArray⟩, .int .i64 70]) (l04short_c o 70 (by omega) (by show List.length o ≤ _; first | omega | (simp; done) | (simp; omega)) w14) (k := fun e_ w16 h_ => ?_)
  obtain ⟨l17, hl18, rfl, k19⟩ := h_
  refine ⟨_, rfl, ?_⟩
  replace hb4 := k19.heap hb4 id
  replace hb10 := k19.heap hb10 id
  replace K := K.trans (k19.any _)
  refine WL.op (d := 1) (.string ⟨(l17).toArray⟩) (k := ?_)
  refine WL.nil ?_
  refine WX.seqN ?_
  refine WC.seq ?_
  refine WC.seq ?_
  refine WC.region ?_
  refine WL.op (d := 23) (.pointer (some ⟨b7, 0, none⟩)) (k := ?_)
  refine WL.load (v := .int .i64 s0) (ld1 (T := 3) (i := 0) hb10) (k := ?_)
  refine WL.bin (d := 25) (v := .int .i64 (bits BinOp.and IntKind.i64 s0 3)) (bits_run (by decide)) (k := ?_)
  refine WL.op (d := 26) (.bool ((bits BinOp.and IntKind.i64 s0 3) != 0)) (k := ?_)
  refine WL.nil ?_
  refine WX.seqN ?_
  refine WC.cond (b := (bits BinOp.and IntKind.i64 s0 3) != 0) (ht := fun h20 => ?_) (hf := fun h20 => ?_)
  · have ph20 := bne_iff_ne.1 h20
    refine WC.seq ?_
    refine WC.region ?_
    refine WL.op (d := 27) (.pointer (some ⟨b1, 0, none⟩)) (k := ?_)
    refine WL.load (v := .string ⟨(p).toArray⟩) (ld1 (T := 9) (i := 0) hb4) (k := ?_)
    refine WL.callG (d := 29) (f := 15) (args := #[.string ⟨(p).toArray⟩, .int .i64 43]) (l04short_c p 43 (by omega) (by show List.length p ≤ _; first | omega | (simp; done) | (simp; omega)) w16) (k := fun e_ w21 h_ => ?_)
    obtain ⟨l22, hl23, rfl, k24⟩ := h_
    refine ⟨_, rfl, ?_⟩
    replace hb4 := k24.heap hb4 id
    replace hb10 := k24.heap hb10 id
    replace K := K.trans (k24.any _)
    refine WL.op (d := 30) (.pointer (some ⟨b1, 0, none⟩)) (k := ?_)
    refine WL.store (v := .string ⟨(l22).toArray⟩) (i := 0) (cs' := #[.string ⟨(l22).toArray⟩, .int .u64 ((e : Nat) : Int), .int .u64 ((n : Nat) : Int)]) hb4 (k := fun w25 hb26 k27 => ?_)
    replace hb10 := k27.heap hb10 (Ne.symm n13)
    replace K := K.trans' k27 (fun i hi e => absurd (e ▸ hi) (Nat.not_lt.2 z6))
    clear hb4
    refine WL.nil ?_
    refine WX.seqN ?_
    refine WC.seq ?_
    refine WC.region ?_
    refine WL.load (v := .agg #[.string ⟨(l22).toArray⟩, .int .u64 ((e : Nat) : Int), .int .u64 ((n : Nat) : Int)]) (ldN (T := 24) (i := 0) (m := 3) (l := [.string ⟨(l22).toArray⟩, .int .u64 ((e : Nat) : Int), .int .u64 ((n : Nat) : Int)]) hb26) (k := ?_)
    refine WL.callG (d := 33) (f := 16) (args := #[.agg #[.string ⟨(l22).toArray⟩, .int .u64 ((e : Nat) : Int), .int .u64 ((n : Nat) : Int)]]) (u04Make_ok (p := l22) (e := e) (n := n) (by first | omega | (simp; done) | (simp; omega)) (by show List.length l22 ≤ _; first | omega | (simp; done) | (simp; omega)) (by omega) (by omega) w25) (k := fun e_ w29 h_ => ⟨.tuple #[.string ⟨(makeS l22 e n).toArray⟩, .int .i64 0], h_.1, ?_⟩)
    have k30 := h_.2; clear h_
    replace hb26 := k30.heap hb26 id
    replace hb10 := k30.heap hb10 id
    replace K := K.trans (k30.any _)
    have ml28 := makeS_len (p := l22) (by first | omega | (simp; done) | (simp; omega)) e n
    refine WL.op (d := 31) (.tuple #[.string ⟨(makeS l22 e n).toArray⟩, .int .i64 0]) (k := ?_)
    refine WL.op (d := 34) (.string ⟨(makeS l22 e n).toArray⟩) (k := ?_)
    refine WL.op (d := 35) (.int .i64 0) (k := ?_)
    refine WL.op (d := 8) (.string ⟨(makeS l22 e n).toArray⟩) (k := ?_)
    refine WL.op (d := 9) (.int .i64 0) (k := ?_)
    refine WL.nil ?_
    refine WX.seqN ?_
    refine WC.seq ?_
    refine WC.region ?_
    refine WL.op (d := 36) (.string ⟨(makeS l22 e n).toArray⟩) (k := ?_)
    obtain ⟨b31, c32, w33, g34, hc35, hy36, k37⟩ := run_toBytesB (makeS l22 e n) w29
    refine WL.conv (d := 37) (vx := .string ⟨(makeS l22 e n).toArray⟩) (v := .slice (some ⟨b31, 0, none⟩) ((makeS l22 e n).length) c32) hc35 (k := ?_)
    clear hc35
    have z38 := Nat.le_trans K.size g34
    have n39 : b1 ≠ b31 := Nat.ne_of_lt (Nat.lt_of_lt_of_le (lt_of_heap hb26) g34)
    have n40 : b7 ≠ b31 := Nat.ne_of_lt (Nat.lt_of_lt_of_le (lt_of_heap hb10) g34)
    replace hb26 := k37.heap hb26 id
    replace hb10 := k37.heap hb10 id
    replace K := K.trans (k37.any _)
    refine WL.op (d := 10) (.slice (some ⟨b31, 0, none⟩) ((makeS l22 e n).length) c32) (k := ?_)
    refine WL.nil ?_
    refine WX.seqN ?_
    refine WC.seq ?_
    refine WC.region ?_
    refine WL.op (d := 38) (.pointer (some ⟨b7, 1, none⟩)) (k := ?_)
    refine WL.load (v := .int .i64 s1) (ld1 (T := 3) (i := 1) hb10) (k := ?_)
    refine WL.bin (d := 40) (v := .int .i64 (Int.tmod s1 64)) (rem_run (by omega)) (k := ?_)
    have m41 := tmod_rng s1 64 (by omega)
    obtain ⟨r42, e43⟩ : ∃ r : Int, Int.tmod s1 64 = r := ⟨_, rfl⟩
    rw [e43] at m41
    refine WL.rw (t := 40) (v := .int .i64 r42) (congrArg (Value.int .i64) e43) (k := ?_)
    refine WL.opE (d := 41) (.int .i64 (IntKind.i64.wrap (r42 + 64))) (v := .int .i64 (r42 + 64)) (congrArg (Value.int .i64) (IntWalk.i64_in _ (by omega))) (k := ?_)
    refine WL.bin (d := 42) (v := .int .i64 (Int.tmod (r42 + 64) 64)) (rem_run (by omega)) (k := ?_)
    have m44 := tmod_rng (r42 + 64) 64 (by omega)
    obtain ⟨r45, e46⟩ : ∃ r : Int, Int.tmod (r42 + 64) 64 = r := ⟨_, rfl⟩
    rw [e46] at m44
    refine WL.rw (t := 42) (v := .int .i64 r45) (congrArg (Value.int .i64) e46) (k := ?_)
    refine WL.op (d := 11) (.int .i64 r45) (k := ?_)
    refine WL.nil ?_
    refine WX.seqN ?_
    refine WC.seq ?_
    refine WC.tail 11 (k := ?_)
    refine WQ.op (d := 43) (.slice (some ⟨b31, 0, none⟩) ((makeS l22 e n).length) c32) (k := ?_)
    refine WQ.op (d := 44) (.int .i64 r45) (k := ?_)
    refine WQ.op (d := 45) (.slice (some ⟨b31, 0, none⟩) ((makeS l22 e n).length) c32) (k := ?_)
    refine WQ.op (d := 46) (.int .i64 r45) (k := ?_)
    refine WQ.idx (T := 31) (E := 5) (m := 1) (b := b31) (o := 0) (len := (makeS l22 e n).length) (cap := c32) (i := r45) (kk := .i64) (d := 47) (by omega) (by omega) (k := ?_)
    have ub47 := u8_lt ((makeS l22 e n)[0 + (r45).toNat * 1]'(by omega))
    refine WQ.load (v := .int .u8 (((makeS l22 e n)[0 + (r45).toNat * 1]'(by omega)).toNat : Int)) (fun w_ k_ => bytes_ld (i := 0 + (r45).toNat * 1) (hy36.keeps k_ id) (by omega)) (k := ?_)
    refine WQ.op (d := 49) (.pointer (some ⟨b7, 2, none⟩)) (k := ?_)
    refine WQ.load (v := .int .i64 s2) (fun w_ k_ => ld1 (T := 3) (i := 2) (k_.heap hb10 id)) (k := ?_)
    refine WQ.op (d := 51) (.int .u8 (IntKind.u8.wrap s2)) (k := ?_)
    refine WQ.bin (d := 52) (v := .int .u8 (bits BinOp.xor IntKind.u8 (((makeS l22 e n)[0 + (r45).toNat * 1]'(by omega)).toNat : Int) (IntKind.u8.wrap s2))) (fun _ => bits_run (by decide)) (k := ?_)
    refine WQ.idx (T := 31) (E := 5) (m := 1) (b := b31) (o := 0) (len := (makeS l22 e n).length) (cap := c32) (i := r45) (kk := .i64) (d := 53) (by omega) (by omega) (k := ?_)
    refine WQ.nilL (fun w48 k49 => ?_)
    replace hb26 := k49.heap hb26 id
    replace hb10 := k49.heap hb10 id
    replace hy36 := hy36.keeps k49 id
    replace K := K.trans (k49.any _)
    obtain ⟨u50, hu51⟩ := bits_u8 BinOp.xor (((makeS l22 e n)[0 + (r45).toNat * 1]'(by omega)).toNat : Int) (IntKind.u8.wrap s2)
    refine WL.rw (t := 52) (v := .int .u8 (u50.toNat : Int)) (congrArg (Value.int .u8) hu51) (k := ?_)
    obtain ⟨w52, hs53, hy54, k55⟩ := bytes_st (i := 0 + (r45).toNat * 1) hy36 (by omega) u50
    refine WL.wr (v := .int .u8 (u50.toNat : Int)) hs53 (k := ?_)
    replace hb26 := k55.heap hb26 n39
    replace hb10 := k55.heap hb10 n40
    replace K := K.trans' k55 (fun i hi e => absurd (e ▸ hi) (Nat.not_lt.2 z38))
    clear hs53 hy36
    refine WL.nil ?_
    refine WX.seqN ?_
    refine WC.seq ?_
    refine WC.region ?_
    refine WL.op (d := 54) (.slice (some ⟨b31, 0, none⟩) ((makeS l22 e n).length) c32) (k := ?_)
    refine WL.conv (d := 55) (vx := .slice (some ⟨b31, 0, none⟩) ((makeS l22 e n).length) c32) (v := .string ⟨(List.set (makeS l22 e n) (0 + (r45).toNat * 1) u50).toArray⟩) (bytes_strN hy54 (by simp)) (k := ?_)
    refine WL.op (d := 1) (.string ⟨(List.set (makeS l22 e n) (0 + (r45).toNat * 1) u50).toArray⟩) (k := ?_)
    refine WL.nil ?_
    refine WX.seqN ?_
    refine WC.seq ?_
    refine WC.region ?_
    refine WL.op (d := 56) (.pointer (some ⟨b7, 0, none⟩)) (k := ?_)
    refine WL.load (v := .int .i64 s0) (ld1 (T := 3) (i := 0) hb10) (k := ?_)
    refine WL.bin (d := 58) (v := .int .i64 (bits BinOp.and IntKind.i64 s0 3)) (bits_run (by decide)) (k := ?_)
    refine WL.op (d := 59) (.bool ((bits BinOp.and IntKind.i64 s0 3) == 3)) (k := ?_)
    refine WL.nil ?_
    refine WX.seqN ?_
    refine WC.cond (b := (bits BinOp.and IntKind.i64 s0 3) == 3) (ht := fun h56 => ?_) (hf := fun h56 => ?_)
    · have ph56 := eq_of_beq h56
      refine WC.region ?_
      refine WL.op (d := 60) (.string ⟨(List.set (makeS l22 e n) (0 + (r45).toNat * 1) u50).toArray⟩) (k := ?_)
      refine WL.op (d := 61) (.int .i64 r45) (k := ?_)
      refine WL.cut (d := 62) (vx := .string ⟨(List.set (makeS l22 e n) (0 + (r45).toNat * 1) u50).toArray⟩) (lo' := none) (hi' := (some (.int .i64 r45))) (mx' := none) (v := .string ⟨(List.take r45.toNat (List.set (makeS l22 e n) (0 + (r45).toNat * 1) u50)).toArray⟩) (run_cut (P := Tryd.prog) (w := w52) (lo := none) (hi := (some (.int .i64 r45))) (T := 9) (a := 0) (b := r45.toNat) (l := (List.set (makeS l22 e n) (0 + (r45).toNat * 1) u50)) (by kernel_rfl) (.inl ⟨rfl, rfl⟩) (.inr ⟨_, _, rfl, by omega⟩) (by first | omega | (simp; omega)) (by first | omega | (simp; omega))) (k := ?_)
      refine WL.op (d := 1) (.string ⟨(List.take r45.toNat (List.set (makeS l22 e n) (0 + (r45).toNat * 1) u50)).toArray⟩) (k := ?_)
      refine WL.nil ?_
      refine WX.seqN ?_
      refine WC.seq ?_
      refine WC.region ?_
      refine WL.op (d := 64) (.string ⟨(List.take r45.toNat (List.set (makeS l22 e n) (0 + (r45).toNat * 1) u50)).toArray⟩) (k := ?_)
      refine WL.callG (d := 65) (f := 17) (args := #[.string ⟨(List.take r45.toNat (List.set (makeS l22 e n) (0 + (r45).toNat * 1) u50)).toArray⟩]) (fRead_c (l := List.take r45.toNat (List.set (makeS l22 e n) (0 + (r45).toNat * 1) u50)) (by show List.length (List.take r45.toNat (List.set (makeS l22 e n) (0 + (r45).toNat * 1) u50)) ≤ _; first | omega | (simp; done) | (simp; omega)) w52) (k := fun e_ w60 h_ => ⟨.tuple #[.agg #[.string ⟨(rdP (List.take r45.toNat (List.set (makeS l22 e n) (0 + (r45).toNat * 1) u50))).toArray⟩, .int .u64 ((rdE (List.take r45.toNat (List.set (makeS l22 e n) (0 + (r45).toNat * 1) u50)) : Nat) : Int), .int .u64 ((rdN (List.take r45.toNat (List.set (makeS l22 e n) (0 + (r45).toNat * 1) u50)) : Nat) : Int)], .bool (decide (isCell (List.take r45.toNat (List.set (makeS l22 e n) (0 + (r45).toNat * 1) u50))))], h_.1, ?_⟩)
      have k61 := h_.2; clear h_
      replace hb26 := k61.heap hb26 id
      replace hb10 := k61.heap hb10 id
      replace hy54 := hy54.keeps k61 id
      replace K := K.trans (k61.any _)
      have te57 := rdE_lt (List.take r45.toNat (List.set (makeS l22 e n) (0 + (r45).toNat * 1) u50))
      have te58 := rdN_lt (List.take r45.toNat (List.set (makeS l22 e n) (0 + (r45).toNat * 1) u50))
      have te59 := rdP_len (List.take r45.toNat (List.set (makeS l22 e n) (0 + (r45).toNat * 1) u50))
      refine WL.op (d := 63) (.tuple #[.agg #[.string ⟨(rdP (List.take r45.toNat (List.set (makeS l22 e n) (0 + (r45).toNat * 1) u50))).toArray⟩, .int .u64 ((rdE (List.take r45.toNat (List.set (makeS l22 e n) (0 + (r45).toNat * 1) u50)) : Nat) : Int), .int .u64 ((rdN (List.take r45.toNat (List.set (makeS l22 e n) (0 + (r45).toNat * 1) u50)) : Nat) : Int)], .bool (decide (isCell (List.take r45.toNat (List.set (makeS l22 e n) (0 + (r45).toNat * 1) u50))))]) (k := ?_)
      refine WL.op (d := 66) (.agg #[.string ⟨(rdP (List.take r45.toNat (List.set (makeS l22 e n) (0 + (r45).toNat * 1) u50))).toArray⟩, .int .u64 ((rdE (List.take r45.toNat (List.set (makeS l22 e n) (0 + (r45).toNat * 1) u50)) : Nat) : Int), .int .u64 ((rdN (List.take r45.toNat (List.set (makeS l22 e n) (0 + (r45).toNat * 1) u50)) : Nat) : Int)]) (k := ?_)
      refine WL.op (d := 67) (.bool (decide (isCell (List.take r45.toNat (List.set (makeS l22 e n) (0 + (r45).toNat * 1) u50))))) (k := ?_)
      refine WL.new (d := 12) (T := 24) #[.string ⟨#[]⟩, .int .u64 0, .int .u64 0] (k := fun b62 w63 g64 hb65 k66 => ?_)
      have z67 := Nat.le_trans K.size g64
      have n68 : b1 ≠ b62 := Nat.ne_of_lt (Nat.lt_of_lt_of_le (lt_of_heap hb26) g64)
      have n69 : b7 ≠ b62 := Nat.ne_of_lt (Nat.lt_of_lt_of_le (lt_of_heap hb10) g64)
      have n70 : b31 ≠ b62 := Nat.ne_of_lt (Nat.lt_of_lt_of_le hy54.lt g64)
      replace hb26 := k66.heap hb26 id
      replace hb10 := k66.heap hb10 id
      replace hy54 := hy54.keeps k66 id
      replace K := K.trans (k66.any _)
      refine WL.store (v := .agg #[.string ⟨(rdP (List.take r45.toNat (List.set (makeS l22 e n) (0 + (r45).toNat * 1) u50))).toArray⟩, .int .u64 ((rdE (List.take r45.toNat (List.set (makeS l22 e n) (0 + (r45).toNat * 1) u50)) : Nat) : Int), .int .u64 ((rdN (List.take r45.toNat (List.set (makeS l22 e n) (0 + (r45).toNat * 1) u50)) : Nat) : Int)]) (i := 0) (cs' := #[.string ⟨(rdP (List.take r45.toNat (List.set (makeS l22 e n) (0 + (r45).toNat * 1) u50))).toArray⟩, .int .u64 ((rdE (List.take r45.toNat (List.set (makeS l22 e n) (0 + (r45).toNat * 1) u50)) : Nat) : Int), .int .u64 ((rdN (List.take r45.toNat (List.set (makeS l22 e n) (0 + (r45).toNat * 1) u50)) : Nat) : Int)]) hb65 (k := fun w71 hb72 k73 => ?_)
      replace hb26 := k73.heap hb26 n68
      replace hb10 := k73.heap hb10 n69
      replace hy54 := hy54.keeps k73 n70
      replace K := K.trans' k73 (fun i hi e => absurd (e ▸ hi) (Nat.not_lt.2 z67))
      clear hb65
      refine WL.op (d := 13) (.bool (decide (isCell (List.take r45.toNat (List.set (makeS l22 e n) (0 + (r45).toNat * 1) u50))))) (k := ?_)
      refine WL.nil ?_
      refine WX.seqN ?_
      refine WC.seq ?_
      refine WC.region ?_
      refine WL.op (d := 69) (.string ⟨(List.take r45.toNat (List.set (makeS l22 e n) (0 + (r45).toNat * 1) u50)).toArray⟩) (k := ?_)
      refine WL.callG (d := 70) (f := 18) (args := #[.string ⟨(List.take r45.toNat (List.set (makeS l22 e n) (0 + (r45).toNat * 1) u50)).toArray⟩]) (u04Read_c (l := List.take r45.toNat (List.set (makeS l22 e n) (0 + (r45).toNat * 1) u50)) (by show List.length (List.take r45.toNat (List.set (makeS l22 e n) (0 + (r45).toNat * 1) u50)) ≤ _; first | omega | (simp; done) | (simp; omega)) w71) (k := fun e_ w77 h_ => ⟨.tuple #[.agg #[.string ⟨(rdP (List.take r45.toNat (List.set (makeS l22 e n) (0 + (r45).toNat * 1) u50))).toArray⟩, .int .u64 ((rdE (List.take r45.toNat (List.set (makeS l22 e n) (0 + (r45).toNat * 1) u50)) : Nat) : Int), .int .u64 ((rdN (List.take r45.toNat (List.set (makeS l22 e n) (0 + (r45).toNat * 1) u50)) : Nat) : Int)], .bool (decide (isCell (List.take r45.toNat (List.set (makeS l22 e n) (0 + (r45).toNat * 1) u50))))], h_.1, ?_⟩)
      have k78 := h_.2; clear h_
      replace hb26 := k78.heap hb26 id
      replace hb10 := k78.heap hb10 id
      replace hy54 := hy54.keeps k78 id
      replace hb72 := k78.heap hb72 id
      replace K := K.trans (k78.any _)
      have te74 := rdE_lt (List.take r45.toNat (List.set (makeS l22 e n) (0 + (r45).toNat * 1) u50))
      have te75 := rdN_lt (List.take r45.toNat (List.set (makeS l22 e n) (0 + (r45).toNat * 1) u50))
      have te76 := rdP_len (List.take r45.toNat (List.set (makeS l22 e n) (0 + (r45).toNat * 1) u50))
      refine WL.op (d := 68) (.tuple #[.agg #[.string ⟨(rdP (List.take r45.toNat (List.set (makeS l22 e n) (0 + (r45).toNat * 1) u50))).toArray⟩, .int .u64 ((rdE (List.take r45.toNat (List.set (makeS l22 e n) (0 + (r45).toNat * 1) u50)) : Nat) : Int), .int .u64 ((rdN (List.take r45.toNat (List.set (makeS l22 e n) (0 + (r45).toNat * 1) u50)) : Nat) : Int)], .bool (decide (isCell (List.take r45.toNat (List.set (makeS l22 e n) (0 + (r45).toNat * 1) u50))))]) (k := ?_)
      refine WL.op (d := 71) (.agg #[.string ⟨(rdP (List.take r45.toNat (List.set (makeS l22 e n) (0 + (r45).toNat * 1) u50))).toArray⟩, .int .u64 ((rdE (List.take r45.toNat (List.set (makeS l22 e n) (0 + (r45).toNat * 1) u50)) : Nat) : Int), .int .u64 ((rdN (List.take r45.toNat (List.set (makeS l22 e n) (0 + (r45).toNat * 1) u50)) : Nat) : Int)]) (k := ?_)
      refine WL.op (d := 72) (.bool (decide (isCell (List.take r45.toNat (List.set (makeS l22 e n) (0 + (r45).toNat * 1) u50))))) (k := ?_)
      refine WL.new (d := 14) (T := 24) #[.string ⟨#[]⟩, .int .u64 0, .int .u64 0] (k := fun b79 w80 g81 hb82 k83 => ?_)
      have z84 := Nat.le_trans K.size g81
      have n85 : b1 ≠ b79 := Nat.ne_of_lt (Nat.lt_of_lt_of_le (lt_of_heap hb26) g81)
      have n86 : b7 ≠ b79 := Nat.ne_of_lt (Nat.lt_of_lt_of_le (lt_of_heap hb10) g81)
      have n87 : b31 ≠ b79 := Nat.ne_of_lt (Nat.lt_of_lt_of_le hy54.lt g81)
      have n88 : b62 ≠ b79 := Nat.ne_of_lt (Nat.lt_of_lt_of_le (lt_of_heap hb72) g81)
      replace hb26 := k83.heap hb26 id
      replace hb10 := k83.heap hb10 id
      replace hy54 := hy54.keeps k83 id
      replace hb72 := k83.heap hb72 id
      replace K := K.trans (k83.any _)
      refine WL.store (v := .agg #[.string ⟨(rdP (List.take r45.toNat (List.set (makeS l22 e n) (0 + (r45).toNat * 1) u50))).toArray⟩, .int .u64 ((rdE (List.take r45.toNat (List.set (makeS l22 e n) (0 + (r45).toNat * 1) u50)) : Nat) : Int), .int .u64 ((rdN (List.take r45.toNat (List.set (makeS l22 e n) (0 + (r45).toNat * 1) u50)) : Nat) : Int)]) (i := 0) (cs' := #[.string ⟨(rdP (List.take r45.toNat (List.set (makeS l22 e n) (0 + (r45).toNat * 1) u50))).toArray⟩, .int .u64 ((rdE (List.take r45.toNat (List.set (makeS l22 e n) (0 + (r45).toNat * 1) u50)) : Nat) : Int), .int .u64 ((rdN (List.take r45.toNat (List.set (makeS l22 e n) (0 + (r45).toNat * 1) u50)) : Nat) : Int)]) hb82 (k := fun w89 hb90 k91 => ?_)
      replace hb26 := k91.heap hb26 n85
      replace hb10 := k91.heap hb10 n86
      replace hy54 := hy54.keeps k91 n87
      replace hb72 := k91.heap hb72 n88
      replace K := K.trans' k91 (fun i hi e => absurd (e ▸ hi) (Nat.not_lt.2 z84))
      clear hb82
      refine WL.op (d := 15) (.bool (decide (isCell (List.take r45.toNat (List.set (makeS l22 e n) (0 + (r45).toNat * 1) u50))))) (k := ?_)
      refine WL.nil ?_
      refine WX.seqN ?_
      refine WC.seq ?_
      refine WC.region ?_
      refine WL.op (d := 74) (.string ⟨(List.take r45.toNat (List.set (makeS l22 e n) (0 + (r45).toNat * 1) u50)).toArray⟩) (k := ?_)
      refine WL.callG (d := 75) (f := 19) (args := #[.string ⟨(List.take r45.toNat (List.set (makeS l22 e n) (0 + (r45).toNat * 1) u50)).toArray⟩]) (fTag_c (l := List.take r45.toNat (List.set (makeS l22 e n) (0 + (r45).toNat * 1) u50)) (by show List.length (List.take r45.toNat (List.set (makeS l22 e n) (0 + (r45).toNat * 1) u50)) ≤ _; first | omega | (simp; done) | (simp; omega)) w89) (k := fun e_ w94 h_ => ⟨.tuple #[.int .u64 ((tgE (List.take r45.toNat (List.set (makeS l22 e n) (0 + (r45).toNat * 1) u50)) : Nat) : Int), .int .u64 ((tgN (List.take r45.toNat (List.set (makeS l22 e n) (0 + (r45).toNat * 1) u50)) : Nat) : Int), .bool (decide (List.length (List.take r45.toNat (List.set (makeS l22 e n) (0 + (r45).toNat * 1) u50)) = 64))], h_.1, ?_⟩)
      have k95 := h_.2; clear h_
      replace hb26 := k95.heap hb26 id
      replace hb10 := k95.heap hb10 id
      replace hy54 := hy54.keeps k95 id
      replace hb72 := k95.heap hb72 id
      replace hb90 := k95.heap hb90 id
      replace K := K.trans (k95.any _)
      have te92 := tgE_lt (List.take r45.toNat (List.set (makeS l22 e n) (0 + (r45).toNat * 1) u50))
      have te93 := tgN_lt (List.take r45.toNat (List.set (makeS l22 e n) (0 + (r45).toNat * 1) u50))
      refine WL.op (d := 73) (.tuple #[.int .u64 ((tgE (List.take r45.toNat (List.set (makeS l22 e n) (0 + (r45).toNat * 1) u50)) : Nat) : Int), .int .u64 ((tgN (List.take r45.toNat (List.set (makeS l22 e n) (0 + (r45).toNat * 1) u50)) : Nat) : Int), .bool (decide (List.length (List.take r45.toNat (List.set (makeS l22 e n) (0 + (r45).toNat * 1) u50)) = 64))]) (k := ?_)
      refine WL.op (d := 76) (.int .u64 ((tgE (List.take r45.toNat (List.set (makeS l22 e n) (0 + (r45).toNat * 1) u50)) : Nat) : Int)) (k := ?_)
      refine WL.op (d := 77) (.int .u64 ((tgN (List.take r45.toNat (List.set (makeS l22 e n) (0 + (r45).toNat * 1) u50)) : Nat) : Int)) (k := ?_)
      refine WL.op (d := 78) (.bool (decide (List.length (List.take r45.toNat (List.set (makeS l22 e n) (0 + (r45).toNat * 1) u50)) = 64))) (k := ?_)
      refine WL.op (d := 16) (.int .u64 ((tgE (List.take r45.toNat (List.set (makeS l22 e n) (0 + (r45).toNat * 1) u50)) : Nat) : Int)) (k := ?_)
      refine WL.op (d := 17) (.int .u64 ((tgN (List.take r45.toNat (List.set (makeS l22 e n) (0 + (r45).toNat * 1) u50)) : Nat) : Int)) (k := ?_)
      refine WL.op (d := 18) (.bool (decide (List.length (List.take r45.toNat (List.set (makeS l22 e n) (0 + (r45).toNat * 1) u50)) = 64))) (k := ?_)
      refine WL.nil ?_
      refine WX.seqN ?_
      refine WC.seq ?_
      refine WC.region ?_
      refine WL.op (d := 79) (.string ⟨(List.take r45.toNat (List.set (makeS l22 e n) (0 + (r45).toNat * 1) u50)).toArray⟩) (k := ?_)
      refine WL.callG (d := 80) (f := 20) (args := #[.string ⟨(List.take r45.toNat (List.set (makeS l22 e n) (0 + (r45).toNat * 1) u50)).toArray⟩]) (u04Tag_c (l := List.take r45.toNat (List.set (makeS l22 e n) (0 + (r45).toNat * 1) u50)) (by show List.length (List.take r45.toNat (List.set (makeS l22 e n) (0 + (r45).toNat * 1) u50)) ≤ _; first | omega | (simp; done) | (simp; omega)) w94) (k := fun e_ w98 h_ => ⟨.agg #[.int .u64 ((tgE (List.take r45.toNat (List.set (makeS l22 e n) (0 + (r45).toNat * 1) u50)) : Nat) : Int), .int .u64 ((tgN (List.take r45.toNat (List.set (makeS l22 e n) (0 + (r45).toNat * 1) u50)) : Nat) : Int), .bool (decide (List.length (List.take r45.toNat (List.set (makeS l22 e n) (0 + (r45).toNat * 1) u50)) = 64))], h_.1, ?_⟩)
      have k99 := h_.2; clear h_
      replace hb26 := k99.heap hb26 id
      replace hb10 := k99.heap hb10 id
      replace hy54 := hy54.keeps k99 id
      replace hb72 := k99.heap hb72 id
      replace hb90 := k99.heap hb90 id
      replace K := K.trans (k99.any _)
      have te96 := tgE_lt (List.take r45.toNat (List.set (makeS l22 e n) (0 + (r45).toNat * 1) u50))
      have te97 := tgN_lt (List.take r45.toNat (List.set (makeS l22 e n) (0 + (r45).toNat * 1) u50))
      refine WL.new (d := 19) (T := 37) #[.int .u64 0, .int .u64 0, .bool false] (k := fun b100 w101 g102 hb103 k104 => ?_)
      have z105 := Nat.le_trans K.size g102
      have n106 : b1 ≠ b100 := Nat.ne_of_lt (Nat.lt_of_lt_of_le (lt_of_heap hb26) g102)
      have n107 : b7 ≠ b100 := Nat.ne_of_lt (Nat.lt_of_lt_of_le (lt_of_heap hb10) g102)
      have n108 : b31 ≠ b100 := Nat.ne_of_lt (Nat.lt_of_lt_of_le hy54.lt g102)
      have n109 : b62 ≠ b100 := Nat.ne_of_lt (Nat.lt_of_lt_of_le (lt_of_heap hb72) g102)
      have n110 : b79 ≠ b100 := Nat.ne_of_lt (Nat.lt_of_lt_of_le (lt_of_heap hb90) g102)
      replace hb26 := k104.heap hb26 id
      replace hb10 := k104.heap hb10 id
      replace hy54 := hy54.keeps k104 id
      replace hb72 := k104.heap hb72 id
      replace hb90 := k104.heap hb90 id
      replace K := K.trans (k104.any _)
      refine WL.store (v := .agg #[.int .u64 ((tgE (List.take r45.toNat (List.set (makeS l22 e n) (0 + (r45).toNat * 1) u50)) : Nat) : Int), .int .u64 ((tgN (List.take r45.toNat (List.set (makeS l22 e n) (0 + (r45).toNat * 1) u50)) : Nat) : Int), .bool (decide (List.length (List.take r45.toNat (List.set (makeS l22 e n) (0 + (r45).toNat * 1) u50)) = 64))]) (i := 0) (cs' := #[.int .u64 ((tgE (List.take r45.toNat (List.set (makeS l22 e n) (0 + (r45).toNat * 1) u50)) : Nat) : Int), .int .u64 ((tgN (List.take r45.toNat (List.set (makeS l22 e n) (0 + (r45).toNat * 1) u50)) : Nat) : Int), .bool (decide (List.length (List.take r45.toNat (List.set (makeS l22 e n) (0 + (r45).toNat * 1) u50)) = 64))]) hb103 (k := fun w111 hb112 k113 => ?_)
      replace hb26 := k113.heap hb26 n106
      replace hb10 := k113.heap hb10 n107
      replace hy54 := hy54.keeps k113 n108
      replace hb72 := k113.heap hb72 n109
      replace hb90 := k113.heap hb90 n110
      replace K := K.trans' k113 (fun i hi e => absurd (e ▸ hi) (Nat.not_lt.2 z105))
      clear hb103
      refine WL.nil ?_
      refine WX.seqN ?_
      refine WC.seq ?_
      refine WC.quiet (k := ?_)
      refine WQ.op (d := 81) (.bool true) (k := ?_)
      refine WQ.op (d := 82) (.bool true) (k := ?_)
      refine WQ.load (v := .agg #[.string ⟨(rdP (List.take r45.toNat (List.set (makeS l22 e n) (0 + (r45).toNat * 1) u50))).toArray⟩, .int .u64 ((rdE (List.take r45.toNat (List.set (makeS l22 e n) (0 + (r45).toNat * 1) u50)) : Nat) : Int), .int .u64 ((rdN (List.take r45.toNat (List.set (makeS l22 e n) (0 + (r45).toNat * 1) u50)) : Nat) : Int)]) (fun w_ k_ => ldN (T := 24) (i := 0) (m := 3) (l := [.string ⟨(rdP (List.take r45.toNat (List.set (makeS l22 e n) (0 + (r45).toNat * 1) u50))).toArray⟩, .int .u64 ((rdE (List.take r45.toNat (List.set (makeS l22 e n) (0 + (r45).toNat * 1) u50)) : Nat) : Int), .int .u64 ((rdN (List.take r45.toNat (List.set (makeS l22 e n) (0 + (r45).toNat * 1) u50)) : Nat) : Int)]) (k_.heap hb72 id)) (k := ?_)
      refine WQ.load (v := .agg #[.string ⟨(rdP (List.take r45.toNat (List.set (makeS l22 e n) (0 + (r45).toNat * 1) u50))).toArray⟩, .int .u64 ((rdE (List.take r45.toNat (List.set (makeS l22 e n) (0 + (r45).toNat * 1) u50)) : Nat) : Int), .int .u64 ((rdN (List.take r45.toNat (List.set (makeS l22 e n) (0 + (r45).toNat * 1) u50)) : Nat) : Int)]) (fun w_ k_ => ldN (T := 24) (i := 0) (m := 3) (l := [.string ⟨(rdP (List.take r45.toNat (List.set (makeS l22 e n) (0 + (r45).toNat * 1) u50))).toArray⟩, .int .u64 ((rdE (List.take r45.toNat (List.set (makeS l22 e n) (0 + (r45).toNat * 1) u50)) : Nat) : Int), .int .u64 ((rdN (List.take r45.toNat (List.set (makeS l22 e n) (0 + (r45).toNat * 1) u50)) : Nat) : Int)]) (k_.heap hb90 id)) (k := ?_)
      refine WQ.bin (d := 85) (v := .bool true) (fun w_ => eqCellS (rdP (List.take r45.toNat (List.set (makeS l22 e n) (0 + (r45).toNat * 1) u50))) ((rdE (List.take r45.toNat (List.set (makeS l22 e n) (0 + (r45).toNat * 1) u50)) : Nat) : Int) ((rdN (List.take r45.toNat (List.set (makeS l22 e n) (0 + (r45).toNat * 1) u50)) : Nat) : Int) w_) (k := ?_)
      refine WQ.op (d := 86) (.bool true) (k := ?_)
      refine WQ.op (d := 87) (.bool true) (k := ?_)
      refine WQ.op (d := 88) (.bool (decide (isCell (List.take r45.toNat (List.set (makeS l22 e n) (0 + (r45).toNat * 1) u50))))) (k := ?_)
      refine WQ.op (d := 89) (.bool (decide (isCell (List.take r45.toNat (List.set (makeS l22 e n) (0 + (r45).toNat * 1) u50))))) (k := ?_)
      refine WQ.opE (d := 90) (.bool ((decide (isCell (List.take r45.toNat (List.set (makeS l22 e n) (0 + (r45).toNat * 1) u50)))) == (decide (isCell (List.take r45.toNat (List.set (makeS l22 e n) (0 + (r45).toNat * 1) u50)))))) (v := .bool true) (congrArg Value.bool (beq_self_eq_true (α := Bool) (decide (isCell (List.take r45.toNat (List.set (makeS l22 e n) (0 + (r45).toNat * 1) u50)))))) (k := ?_)
      refine WQ.op (d := 91) (.bool true) (k := ?_)
      refine WQ.op (d := 92) (.bool true) (k := ?_)
      refine WQ.op (d := 93) (.int .u64 ((tgE (List.take r45.toNat (List.set (makeS l22 e n) (0 + (r45).toNat * 1) u50)) : Nat) : Int)) (k := ?_)
      refine WQ.op (d := 94) (.pointer (some ⟨b100, 0, none⟩)) (k := ?_)
      refine WQ.load (v := .int .u64 ((tgE (List.take r45.toNat (List.set (makeS l22 e n) (0 + (r45).toNat * 1) u50)) : Nat) : Int)) (fun w_ k_ => ld1 (T := 22) (i := 0) (k_.heap hb112 id)) (k := ?_)
      refine WQ.opE (d := 96) (.bool (((tgE (List.take r45.toNat (List.set (makeS l22 e n) (0 + (r45).toNat * 1) u50)) : Nat) : Int) == ((tgE (List.take r45.toNat (List.set (makeS l22 e n) (0 + (r45).toNat * 1) u50)) : Nat) : Int))) (v := .bool true) (congrArg Value.bool (beq_self_eq_true _)) (k := ?_)
      refine WQ.op (d := 97) (.bool true) (k := ?_)
      refine WQ.op (d := 98) (.bool true) (k := ?_)
      refine WQ.op (d := 99) (.int .u64 ((tgN (List.take r45.toNat (List.set (makeS l22 e n) (0 + (r45).toNat * 1) u50)) : Nat) : Int)) (k := ?_)
      refine WQ.op (d := 100) (.pointer (some ⟨b100, 1, none⟩)) (k := ?_)
      refine WQ.load (v := .int .u64 ((tgN (List.take r45.toNat (List.set (makeS l22 e n) (0 + (r45).toNat * 1) u50)) : Nat) : Int)) (fun w_ k_ => ld1 (T := 22) (i := 1) (k_.heap hb112 id)) (k := ?_)
      refine WQ.opE (d := 102) (.bool (((tgN (List.take r45.toNat (List.set (makeS l22 e n) (0 + (r45).toNat * 1) u50)) : Nat) : Int) == ((tgN (List.take r45.toNat (List.set (makeS l22 e n) (0 + (r45).toNat * 1) u50)) : Nat) : Int))) (v := .bool true) (congrArg Value.bool (beq_self_eq_true _)) (k := ?_)
      refine WQ.op (d := 103) (.bool true) (k := ?_)
      refine WQ.op (d := 104) (.bool true) (k := ?_)
      refine WQ.op (d := 105) (.bool (decide (List.length (List.take r45.toNat (List.set (makeS l22 e n) (0 + (r45).toNat * 1) u50)) = 64))) (k := ?_)
      refine WQ.op (d := 106) (.pointer (some ⟨b100, 2, none⟩)) (k := ?_)
      refine WQ.load (v := .bool (decide (List.length (List.take r45.toNat (List.set (makeS l22 e n) (0 + (r45).toNat * 1) u50)) = 64))) (fun w_ k_ => ld1 (T := 4) (i := 2) (k_.heap hb112 id)) (k := ?_)
      refine WQ.opE (d := 108) (.bool ((decide (List.length (List.take r45.toNat (List.set (makeS l22 e n) (0 + (r45).toNat * 1) u50)) = 64)) == (decide (List.length (List.take r45.toNat (List.set (makeS l22 e n) (0 + (r45).toNat * 1) u50)) = 64)))) (v := .bool true) (congrArg Value.bool (beq_self_eq_true (α := Bool) (decide (List.length (List.take r45.toNat (List.set (makeS l22 e n) (0 + (r45).toNat * 1) u50)) = 64)))) (k := ?_)
      refine WQ.op (d := 109) (.bool true) (k := ?_)
      refine WQ.op (d := 110) (.bool true) (k := ?_)
      refine WQ.op (d := 111) (.string ⟨(List.take r45.toNat (List.set (makeS l22 e n) (0 + (r45).toNat * 1) u50)).toArray⟩) (k := ?_)
      refine WQ.op (d := 112) (.pointer (some ⟨b1, 1, none⟩)) (k := ?_)
      refine WQ.load (v := .int .u64 ((e : Nat) : Int)) (fun w_ k_ => ld1 (T := 22) (i := 1) (k_.heap hb26 id)) (k := ?_)
      refine WQ.op (d := 114) (.pointer (some ⟨b1, 2, none⟩)) (k := ?_)
      refine WQ.load (v := .int .u64 ((n : Nat) : Int)) (fun w_ k_ => ld1 (T := 22) (i := 2) (k_.heap hb26 id)) (k := ?_)
      refine WQ.callG (d := 116) (f := 21) (args := #[.string ⟨(List.take r45.toNat (List.set (makeS l22 e n) (0 + (r45).toNat * 1) u50)).toArray⟩, .int .u64 ((e : Nat) : Int), .int .u64 ((n : Nat) : Int)]) (v := .bool (decide (isCell (List.take r45.toNat (List.set (makeS l22 e n) (0 + (r45).toNat * 1) u50)) ∧ rdE (List.take r45.toNat (List.set (makeS l22 e n) (0 + (r45).toNat * 1) u50)) = e ∧ rdN (List.take r45.toNat (List.set (makeS l22 e n) (0 + (r45).toNat * 1) u50)) = n))) (fun w_ k_ => fWhole_c (l := List.take r45.toNat (List.set (makeS l22 e n) (0 + (r45).toNat * 1) u50)) (e := e) (n := n) (by show List.length (List.take r45.toNat (List.set (makeS l22 e n) (0 + (r45).toNat * 1) u50)) ≤ _; first | omega | (simp; done) | (simp; omega)) w_) addsR (k := ?_)
      refine WQ.op (d := 117) (.string ⟨(List.take r45.toNat (List.set (makeS l22 e n) (0 + (r45).toNat * 1) u50)).toArray⟩) (k := ?_)
      refine WQ.op (d := 118) (.pointer (some ⟨b1, 1, none⟩)) (k := ?_)
      refine WQ.load (v := .int .u64 ((e : Nat) : Int)) (fun w_ k_ => ld1 (T := 22) (i := 1) (k_.heap hb26 id)) (k := ?_)
      refine WQ.op (d := 120) (.pointer (some ⟨b1, 2, none⟩)) (k := ?_)
      refine WQ.load (v := .int .u64 ((n : Nat) : Int)) (fun w_ k_ => ld1 (T := 22) (i := 2) (k_.heap hb26 id)) (k := ?_)
      refine WQ.callG (d := 122) (f := 22) (args := #[.string ⟨(List.take r45.toNat (List.set (makeS l22 e n) (0 + (r45).toNat * 1) u50)).toArray⟩, .int .u64 ((e : Nat) : Int), .int .u64 ((n : Nat) : Int)]) (v := .bool (decide (isCell (List.take r45.toNat (List.set (makeS l22 e n) (0 + (r45).toNat * 1) u50)) ∧ rdE (List.take r45.toNat (List.set (makeS l22 e n) (0 + (r45).toNat * 1) u50)) = e ∧ rdN (List.take r45.toNat (List.set (makeS l22 e n) (0 + (r45).toNat * 1) u50)) = n))) (fun w_ k_ => u04Whole_c (l := List.take r45.toNat (List.set (makeS l22 e n) (0 + (r45).toNat * 1) u50)) (e := e) (n := n) (by show List.length (List.take r45.toNat (List.set (makeS l22 e n) (0 + (r45).toNat * 1) u50)) ≤ _; first | omega | (simp; done) | (simp; omega)) w_) addsR (k := ?_)
      refine WQ.opE (d := 123) (.bool ((decide (isCell (List.take r45.toNat (List.set (makeS l22 e n) (0 + (r45).toNat * 1) u50)) ∧ rdE (List.take r45.toNat (List.set (makeS l22 e n) (0 + (r45).toNat * 1) u50)) = e ∧ rdN (List.take r45.toNat (List.set (makeS l22 e n) (0 + (r45).toNat * 1) u50)) = n)) == (decide (isCell (List.take r45.toNat (List.set (makeS l22 e n) (0 + (r45).toNat * 1) u50)) ∧ rdE (List.take r45.toNat (List.set (makeS l22 e n) (0 + (r45).toNat * 1) u50)) = e ∧ rdN (List.take r45.toNat (List.set (makeS l22 e n) (0 + (r45).toNat * 1) u50)) = n)))) (v := .bool true) (congrArg Value.bool (beq_self_eq_true (α := Bool) (decide (isCell (List.take r45.toNat (List.set (makeS l22 e n) (0 + (r45).toNat * 1) u50)) ∧ rdE (List.take r45.toNat (List.set (makeS l22 e n) (0 + (r45).toNat * 1) u50)) = e ∧ rdN (List.take r45.toNat (List.set (makeS l22 e n) (0 + (r45).toNat * 1) u50)) = n)))) (k := ?_)
      refine WQ.op (d := 124) (.bool true) (k := ?_)
      refine WQ.op (d := 6) (.bool true) (k := ?_)
      refine WQ.nilX (fun w114 k115 => ?_)
      replace hb26 := k115.heap hb26 id
      replace hb10 := k115.heap hb10 id
      replace hy54 := hy54.keeps k115 id
      replace hb72 := k115.heap hb72 id
      replace hb90 := k115.heap hb90 id
      replace hb112 := k115.heap hb112 id
      replace K := K.trans (k115.any _)
      refine WX.seqN ?_
      refine WC.ret ?_
      refine WX.ret (rs := [.tmp 6]) [.bool true] (.bool true) ⟨(by kernel_rfl), trivial⟩ (k := ?_)
      exact ⟨rfl, K⟩
    · have ph56 := ne_of_beq_false h56
      refine WC.skip ?_
      refine WX.seqN ?_
      refine WC.seq ?_
      refine WC.region ?_
      refine WL.op (d := 64) (.string ⟨(List.set (makeS l22 e n) (0 + (r45).toNat * 1) u50).toArray⟩) (k := ?_)
      refine WL.callG (d := 65) (f := 17) (args := #[.string ⟨(List.set (makeS l22 e n) (0 + (r45).toNat * 1) u50).toArray⟩]) (fRead_c (l := List.set (makeS l22 e n) (0 + (r45).toNat * 1) u50) (by show List.length (List.set (makeS l22 e n) (0 + (r45).toNat * 1) u50) ≤ _; first | omega | (simp; done) | (simp; omega)) w52) (k := fun e_ w119 h_ => ⟨.tuple #[.agg #[.string ⟨(rdP (List.set (makeS l22 e n) (0 + (r45).toNat * 1) u50)).toArray⟩, .int .u64 ((rdE (List.set (makeS l22 e n) (0 + (r45).toNat * 1) u50) : Nat) : Int), .int .u64 ((rdN (List.set (makeS l22 e n) (0 + (r45).toNat * 1) u50) : Nat) : Int)], .bool (decide (isCell (List.set (makeS l22 e n) (0 + (r45).toNat * 1) u50)))], h_.1, ?_⟩)
      have k120 := h_.2; clear h_
      replace hb26 := k120.heap hb26 id
      replace hb10 := k120.heap hb10 id
      replace hy54 := hy54.keeps k120 id
      replace K := K.trans (k120.any _)
      have te116 := rdE_lt (List.set (makeS l22 e n) (0 + (r45).toNat * 1) u50)
      have te117 := rdN_lt (List.set (makeS l22 e n) (0 + (r45).toNat * 1) u50)
      have te118 := rdP_len (List.set (makeS l22 e n) (0 + (r45).toNat * 1) u50)
      refine WL.op (d := 63) (.tuple #[.agg #[.string ⟨(rdP (List.set (makeS l22 e n) (0 + (r45).toNat * 1) u50)).toArray⟩, .int .u64 ((rdE (List.set (makeS l22 e n) (0 + (r45).toNat * 1) u50) : Nat) : Int), .int .u64 ((rdN (List.set (makeS l22 e n) (0 + (r45).toNat * 1) u50) : Nat) : Int)], .bool (decide (isCell (List.set (makeS l22 e n) (0 + (r45).toNat * 1) u50)))]) (k := ?_)
      refine WL.op (d := 66) (.agg #[.string ⟨(rdP (List.set (makeS l22 e n) (0 + (r45).toNat * 1) u50)).toArray⟩, .int .u64 ((rdE (List.set (makeS l22 e n) (0 + (r45).toNat * 1) u50) : Nat) : Int), .int .u64 ((rdN (List.set (makeS l22 e n) (0 + (r45).toNat * 1) u50) : Nat) : Int)]) (k := ?_)
      refine WL.op (d := 67) (.bool (decide (isCell (List.set (makeS l22 e n) (0 + (r45).toNat * 1) u50)))) (k := ?_)
      refine WL.new (d := 12) (T := 24) #[.string ⟨#[]⟩, .int .u64 0, .int .u64 0] (k := fun b121 w122 g123 hb124 k125 => ?_)
      have z126 := Nat.le_trans K.size g123
      have n127 : b1 ≠ b121 := Nat.ne_of_lt (Nat.lt_of_lt_of_le (lt_of_heap hb26) g123)
      have n128 : b7 ≠ b121 := Nat.ne_of_lt (Nat.lt_of_lt_of_le (lt_of_heap hb10) g123)
      have n129 : b31 ≠ b121 := Nat.ne_of_lt (Nat.lt_of_lt_of_le hy54.lt g123)
      replace hb26 := k125.heap hb26 id
      replace hb10 := k125.heap hb10 id
      replace hy54 := hy54.keeps k125 id
      replace K := K.trans (k125.any _)
      refine WL.store (v := .agg #[.string ⟨(rdP (List.set (makeS l22 e n) (0 + (r45).toNat * 1) u50)).toArray⟩, .int .u64 ((rdE (List.set (makeS l22 e n) (0 + (r45).toNat * 1) u50) : Nat) : Int), .int .u64 ((rdN (List.set (makeS l22 e n) (0 + (r45).toNat * 1) u50) : Nat) : Int)]) (i := 0) (cs' := #[.string ⟨(rdP (List.set (makeS l22 e n) (0 + (r45).toNat * 1) u50)).toArray⟩, .int .u64 ((rdE (List.set (makeS l22 e n) (0 + (r45).toNat * 1) u50) : Nat) : Int), .int .u64 ((rdN (List.set (makeS l22 e n) (0 + (r45).toNat * 1) u50) : Nat) : Int)]) hb124 (k := fun w130 hb131 k132 => ?_)
      replace hb26 := k132.heap hb26 n127
      replace hb10 := k132.heap hb10 n128
      replace hy54 := hy54.keeps k132 n129
      replace K := K.trans' k132 (fun i hi e => absurd (e ▸ hi) (Nat.not_lt.2 z126))
      clear hb124
      refine WL.op (d := 13) (.bool (decide (isCell (List.set (makeS l22 e n) (0 + (r45).toNat * 1) u50)))) (k := ?_)
      refine WL.nil ?_
      refine WX.seqN ?_
      refine WC.seq ?_
      refine WC.region ?_
      refine WL.op (d := 69) (.string ⟨(List.set (makeS l22 e n) (0 + (r45).toNat * 1) u50).toArray⟩) (k := ?_)
      refine WL.callG (d := 70) (f := 18) (args := #[.string ⟨(List.set (makeS l22 e n) (0 + (r45).toNat * 1) u50).toArray⟩]) (u04Read_c (l := List.set (makeS l22 e n) (0 + (r45).toNat * 1) u50) (by show List.length (List.set (makeS l22 e n) (0 + (r45).toNat * 1) u50) ≤ _; first | omega | (simp; done) | (simp; omega)) w130) (k := fun e_ w136 h_ => ⟨.tuple #[.agg #[.string ⟨(rdP (List.set (makeS l22 e n) (0 + (r45).toNat * 1) u50)).toArray⟩, .int .u64 ((rdE (List.set (makeS l22 e n) (0 + (r45).toNat * 1) u50) : Nat) : Int), .int .u64 ((rdN (List.set (makeS l22 e n) (0 + (r45).toNat * 1) u50) : Nat) : Int)], .bool (decide (isCell (List.set (makeS l22 e n) (0 + (r45).toNat * 1) u50)))], h_.1, ?_⟩)
      have k137 := h_.2; clear h_
      replace hb26 := k137.heap hb26 id
      replace hb10 := k137.heap hb10 id
      replace hy54 := hy54.keeps k137 id
      replace hb131 := k137.heap hb131 id
      replace K := K.trans (k137.any _)
      have te133 := rdE_lt (List.set (makeS l22 e n) (0 + (r45).toNat * 1) u50)
      have te134 := rdN_lt (List.set (makeS l22 e n) (0 + (r45).toNat * 1) u50)
      have te135 := rdP_len (List.set (makeS l22 e n) (0 + (r45).toNat * 1) u50)
      refine WL.op (d := 68) (.tuple #[.agg #[.string ⟨(rdP (List.set (makeS l22 e n) (0 + (r45).toNat * 1) u50)).toArray⟩, .int .u64 ((rdE (List.set (makeS l22 e n) (0 + (r45).toNat * 1) u50) : Nat) : Int), .int .u64 ((rdN (List.set (makeS l22 e n) (0 + (r45).toNat * 1) u50) : Nat) : Int)], .bool (decide (isCell (List.set (makeS l22 e n) (0 + (r45).toNat * 1) u50)))]) (k := ?_)
      refine WL.op (d := 71) (.agg #[.string ⟨(rdP (List.set (makeS l22 e n) (0 + (r45).toNat * 1) u50)).toArray⟩, .int .u64 ((rdE (List.set (makeS l22 e n) (0 + (r45).toNat * 1) u50) : Nat) : Int), .int .u64 ((rdN (List.set (makeS l22 e n) (0 + (r45).toNat * 1) u50) : Nat) : Int)]) (k := ?_)
      refine WL.op (d := 72) (.bool (decide (isCell (List.set (makeS l22 e n) (0 + (r45).toNat * 1) u50)))) (k := ?_)
      refine WL.new (d := 14) (T := 24) #[.string ⟨#[]⟩, .int .u64 0, .int .u64 0] (k := fun b138 w139 g140 hb141 k142 => ?_)
      have z143 := Nat.le_trans K.size g140
      have n144 : b1 ≠ b138 := Nat.ne_of_lt (Nat.lt_of_lt_of_le (lt_of_heap hb26) g140)
      have n145 : b7 ≠ b138 := Nat.ne_of_lt (Nat.lt_of_lt_of_le (lt_of_heap hb10) g140)
      have n146 : b31 ≠ b138 := Nat.ne_of_lt (Nat.lt_of_lt_of_le hy54.lt g140)
      have n147 : b121 ≠ b138 := Nat.ne_of_lt (Nat.lt_of_lt_of_le (lt_of_heap hb131) g140)
      replace hb26 := k142.heap hb26 id
      replace hb10 := k142.heap hb10 id
      replace hy54 := hy54.keeps k142 id
      replace hb131 := k142.heap hb131 id
      replace K := K.trans (k142.any _)
      refine WL.store (v := .agg #[.string ⟨(rdP (List.set (makeS l22 e n) (0 + (r45).toNat * 1) u50)).toArray⟩, .int .u64 ((rdE (List.set (makeS l22 e n) (0 + (r45).toNat * 1) u50) : Nat) : Int), .int .u64 ((rdN (List.set (makeS l22 e n) (0 + (r45).toNat * 1) u50) : Nat) : Int)]) (i := 0) (cs' := #[.string ⟨(rdP (List.set (makeS l22 e n) (0 + (r45).toNat * 1) u50)).toArray⟩, .int .u64 ((rdE (List.set (makeS l22 e n) (0 + (r45).toNat * 1) u50) : Nat) : Int), .int .u64 ((rdN (List.set (makeS l22 e n) (0 + (r45).toNat * 1) u50) : Nat) : Int)]) hb141 (k := fun w148 hb149 k150 => ?_)
      replace hb26 := k150.heap hb26 n144
      replace hb10 := k150.heap hb10 n145
      replace hy54 := hy54.keeps k150 n146
      replace hb131 := k150.heap hb131 n147
      replace K := K.trans' k150 (fun i hi e => absurd (e ▸ hi) (Nat.not_lt.2 z143))
      clear hb141
      refine WL.op (d := 15) (.bool (decide (isCell (List.set (makeS l22 e n) (0 + (r45).toNat * 1) u50)))) (k := ?_)
      refine WL.nil ?_
      refine WX.seqN ?_
      refine WC.seq ?_
      refine WC.region ?_
      refine WL.op (d := 74) (.string ⟨(List.set (makeS l22 e n) (0 + (r45).toNat * 1) u50).toArray⟩) (k := ?_)
      refine WL.callG (d := 75) (f := 19) (args := #[.string ⟨(List.set (makeS l22 e n) (0 + (r45).toNat * 1) u50).toArray⟩]) (fTag_c (l := List.set (makeS l22 e n) (0 + (r45).toNat * 1) u50) (by show List.length (List.set (makeS l22 e n) (0 + (r45).toNat * 1) u50) ≤ _; first | omega | (simp; done) | (simp; omega)) w148) (k := fun e_ w153 h_ => ⟨.tuple #[.int .u64 ((tgE (List.set (makeS l22 e n) (0 + (r45).toNat * 1) u50) : Nat) : Int), .int .u64 ((tgN (List.set (makeS l22 e n) (0 + (r45).toNat * 1) u50) : Nat) : Int), .bool (decide (List.length (List.set (makeS l22 e n) (0 + (r45).toNat * 1) u50) = 64))], h_.1, ?_⟩)
      have k154 := h_.2; clear h_
      replace hb26 := k154.heap hb26 id
      replace hb10 := k154.heap hb10 id
      replace hy54 := hy54.keeps k154 id
      replace hb131 := k154.heap hb131 id
      replace hb149 := k154.heap hb149 id
      replace K := K.trans (k154.any _)
      have te151 := tgE_lt (List.set (makeS l22 e n) (0 + (r45).toNat * 1) u50)
      have te152 := tgN_lt (List.set (makeS l22 e n) (0 + (r45).toNat * 1) u50)
      refine WL.op (d := 73) (.tuple #[.int .u64 ((tgE (List.set (makeS l22 e n) (0 + (r45).toNat * 1) u50) : Nat) : Int), .int .u64 ((tgN (List.set (makeS l22 e n) (0 + (r45).toNat * 1) u50) : Nat) : Int), .bool (decide (List.length (List.set (makeS l22 e n) (0 + (r45).toNat * 1) u50) = 64))]) (k := ?_)
      refine WL.op (d := 76) (.int .u64 ((tgE (List.set (makeS l22 e n) (0 + (r45).toNat * 1) u50) : Nat) : Int)) (k := ?_)
      refine WL.op (d := 77) (.int .u64 ((tgN (List.set (makeS l22 e n) (0 + (r45).toNat * 1) u50) : Nat) : Int)) (k := ?_)
      refine WL.op (d := 78) (.bool (decide (List.length (List.set (makeS l22 e n) (0 + (r45).toNat * 1) u50) = 64))) (k := ?_)
      refine WL.op (d := 16) (.int .u64 ((tgE (List.set (makeS l22 e n) (0 + (r45).toNat * 1) u50) : Nat) : Int)) (k := ?_)
      refine WL.op (d := 17) (.int .u64 ((tgN (List.set (makeS l22 e n) (0 + (r45).toNat * 1) u50) : Nat) : Int)) (k := ?_)
      refine WL.op (d := 18) (.bool (decide (List.length (List.set (makeS l22 e n) (0 + (r45).toNat * 1) u50) = 64))) (k := ?_)
      refine WL.nil ?_
      refine WX.seqN ?_
      refine WC.seq ?_
      refine WC.region ?_
      refine WL.op (d := 79) (.string ⟨(List.set (makeS l22 e n) (0 + (r45).toNat * 1) u50).toArray⟩) (k := ?_)
      refine WL.callG (d := 80) (f := 20) (args := #[.string ⟨(List.set (makeS l22 e n) (0 + (r45).toNat * 1) u50).toArray⟩]) (u04Tag_c (l := List.set (makeS l22 e n) (0 + (r45).toNat * 1) u50) (by show List.length (List.set (makeS l22 e n) (0 + (r45).toNat * 1) u50) ≤ _; first | omega | (simp; done) | (simp; omega)) w153) (k := fun e_ w157 h_ => ⟨.agg #[.int .u64 ((tgE (List.set (makeS l22 e n) (0 + (r45).toNat * 1) u50) : Nat) : Int), .int .u64 ((tgN (List.set (makeS l22 e n) (0 + (r45).toNat * 1) u50) : Nat) : Int), .bool (decide (List.length (List.set (makeS l22 e n) (0 + (r45).toNat * 1) u50) = 64))], h_.1, ?_⟩)
      have k158 := h_.2; clear h_
      replace hb26 := k158.heap hb26 id
      replace hb10 := k158.heap hb10 id
      replace hy54 := hy54.keeps k158 id
      replace hb131 := k158.heap hb131 id
      replace hb149 := k158.heap hb149 id
      replace K := K.trans (k158.any _)
      have te155 := tgE_lt (List.set (makeS l22 e n) (0 + (r45).toNat * 1) u50)
      have te156 := tgN_lt (List.set (makeS l22 e n) (0 + (r45).toNat * 1) u50)
      refine WL.new (d := 19) (T := 37) #[.int .u64 0, .int .u64 0, .bool false] (k := fun b159 w160 g161 hb162 k163 => ?_)
      have z164 := Nat.le_trans K.size g161
      have n165 : b1 ≠ b159 := Nat.ne_of_lt (Nat.lt_of_lt_of_le (lt_of_heap hb26) g161)
      have n166 : b7 ≠ b159 := Nat.ne_of_lt (Nat.lt_of_lt_of_le (lt_of_heap hb10) g161)
      have n167 : b31 ≠ b159 := Nat.ne_of_lt (Nat.lt_of_lt_of_le hy54.lt g161)
      have n168 : b121 ≠ b159 := Nat.ne_of_lt (Nat.lt_of_lt_of_le (lt_of_heap hb131) g161)
      have n169 : b138 ≠ b159 := Nat.ne_of_lt (Nat.lt_of_lt_of_le (lt_of_heap hb149) g161)
      replace hb26 := k163.heap hb26 id
      replace hb10 := k163.heap hb10 id
      replace hy54 := hy54.keeps k163 id
      replace hb131 := k163.heap hb131 id
      replace hb149 := k163.heap hb149 id
      replace K := K.trans (k163.any _)
      refine WL.store (v := .agg #[.int .u64 ((tgE (List.set (makeS l22 e n) (0 + (r45).toNat * 1) u50) : Nat) : Int), .int .u64 ((tgN (List.set (makeS l22 e n) (0 + (r45).toNat * 1) u50) : Nat) : Int), .bool (decide (List.length (List.set (makeS l22 e n) (0 + (r45).toNat * 1) u50) = 64))]) (i := 0) (cs' := #[.int .u64 ((tgE (List.set (makeS l22 e n) (0 + (r45).toNat * 1) u50) : Nat) : Int), .int .u64 ((tgN (List.set (makeS l22 e n) (0 + (r45).toNat * 1) u50) : Nat) : Int), .bool (decide (List.length (List.set (makeS l22 e n) (0 + (r45).toNat * 1) u50) = 64))]) hb162 (k := fun w170 hb171 k172 => ?_)
      replace hb26 := k172.heap hb26 n165
      replace hb10 := k172.heap hb10 n166
      replace hy54 := hy54.keeps k172 n167
      replace hb131 := k172.heap hb131 n168
      replace hb149 := k172.heap hb149 n169
      replace K := K.trans' k172 (fun i hi e => absurd (e ▸ hi) (Nat.not_lt.2 z164))
      clear hb162
      refine WL.nil ?_
      refine WX.seqN ?_
      refine WC.seq ?_
      refine WC.quiet (k := ?_)
      refine WQ.op (d := 81) (.bool true) (k := ?_)
      refine WQ.op (d := 82) (.bool true) (k := ?_)
      refine WQ.load (v := .agg #[.string ⟨(rdP (List.set (makeS l22 e n) (0 + (r45).toNat * 1) u50)).toArray⟩, .int .u64 ((rdE (List.set (makeS l22 e n) (0 + (r45).toNat * 1) u50) : Nat) : Int), .int .u64 ((rdN (List.set (makeS l22 e n) (0 + (r45).toNat * 1) u50) : Nat) : Int)]) (fun w_ k_ => ldN (T := 24) (i := 0) (m := 3) (l := [.string ⟨(rdP (List.set (makeS l22 e n) (0 + (r45).toNat * 1) u50)).toArray⟩, .int .u64 ((rdE (List.set (makeS l22 e n) (0 + (r45).toNat * 1) u50) : Nat) : Int), .int .u64 ((rdN (List.set (makeS l22 e n) (0 + (r45).toNat * 1) u50) : Nat) : Int)]) (k_.heap hb131 id)) (k := ?_)
      refine WQ.load (v := .agg #[.string ⟨(rdP (List.set (makeS l22 e n) (0 + (r45).toNat * 1) u50)).toArray⟩, .int .u64 ((rdE (List.set (makeS l22 e n) (0 + (r45).toNat * 1) u50) : Nat) : Int), .int .u64 ((rdN (List.set (makeS l22 e n) (0 + (r45).toNat * 1) u50) : Nat) : Int)]) (fun w_ k_ => ldN (T := 24) (i := 0) (m := 3) (l := [.string ⟨(rdP (List.set (makeS l22 e n) (0 + (r45).toNat * 1) u50)).toArray⟩, .int .u64 ((rdE (List.set (makeS l22 e n) (0 + (r45).toNat * 1) u50) : Nat) : Int), .int .u64 ((rdN (List.set (makeS l22 e n) (0 + (r45).toNat * 1) u50) : Nat) : Int)]) (k_.heap hb149 id)) (k := ?_)
      refine WQ.bin (d := 85) (v := .bool true) (fun w_ => eqCellS (rdP (List.set (makeS l22 e n) (0 + (r45).toNat * 1) u50)) ((rdE (List.set (makeS l22 e n) (0 + (r45).toNat * 1) u50) : Nat) : Int) ((rdN (List.set (makeS l22 e n) (0 + (r45).toNat * 1) u50) : Nat) : Int) w_) (k := ?_)
      refine WQ.op (d := 86) (.bool true) (k := ?_)
      refine WQ.op (d := 87) (.bool true) (k := ?_)
      refine WQ.op (d := 88) (.bool (decide (isCell (List.set (makeS l22 e n) (0 + (r45).toNat * 1) u50)))) (k := ?_)
      refine WQ.op (d := 89) (.bool (decide (isCell (List.set (makeS l22 e n) (0 + (r45).toNat * 1) u50)))) (k := ?_)
      refine WQ.opE (d := 90) (.bool ((decide (isCell (List.set (makeS l22 e n) (0 + (r45).toNat * 1) u50))) == (decide (isCell (List.set (makeS l22 e n) (0 + (r45).toNat * 1) u50))))) (v := .bool true) (congrArg Value.bool (beq_self_eq_true (α := Bool) (decide (isCell (List.set (makeS l22 e n) (0 + (r45).toNat * 1) u50))))) (k := ?_)
      refine WQ.op (d := 91) (.bool true) (k := ?_)
      refine WQ.op (d := 92) (.bool true) (k := ?_)
      refine WQ.op (d := 93) (.int .u64 ((tgE (List.set (makeS l22 e n) (0 + (r45).toNat * 1) u50) : Nat) : Int)) (k := ?_)
      refine WQ.op (d := 94) (.pointer (some ⟨b159, 0, none⟩)) (k := ?_)
      refine WQ.load (v := .int .u64 ((tgE (List.set (makeS l22 e n) (0 + (r45).toNat * 1) u50) : Nat) : Int)) (fun w_ k_ => ld1 (T := 22) (i := 0) (k_.heap hb171 id)) (k := ?_)
      refine WQ.opE (d := 96) (.bool (((tgE (List.set (makeS l22 e n) (0 + (r45).toNat * 1) u50) : Nat) : Int) == ((tgE (List.set (makeS l22 e n) (0 + (r45).toNat * 1) u50) : Nat) : Int))) (v := .bool true) (congrArg Value.bool (beq_self_eq_true _)) (k := ?_)
      refine WQ.op (d := 97) (.bool true) (k := ?_)
      refine WQ.op (d := 98) (.bool true) (k := ?_)
      refine WQ.op (d := 99) (.int .u64 ((tgN (List.set (makeS l22 e n) (0 + (r45).toNat * 1) u50) : Nat) : Int)) (k := ?_)
      refine WQ.op (d := 100) (.pointer (some ⟨b159, 1, none⟩)) (k := ?_)
      refine WQ.load (v := .int .u64 ((tgN (List.set (makeS l22 e n) (0 + (r45).toNat * 1) u50) : Nat) : Int)) (fun w_ k_ => ld1 (T := 22) (i := 1) (k_.heap hb171 id)) (k := ?_)
      refine WQ.opE (d := 102) (.bool (((tgN (List.set (makeS l22 e n) (0 + (r45).toNat * 1) u50) : Nat) : Int) == ((tgN (List.set (makeS l22 e n) (0 + (r45).toNat * 1) u50) : Nat) : Int))) (v := .bool true) (congrArg Value.bool (beq_self_eq_true _)) (k := ?_)
      refine WQ.op (d := 103) (.bool true) (k := ?_)
      refine WQ.op (d := 104) (.bool true) (k := ?_)
      refine WQ.op (d := 105) (.bool (decide (List.length (List.set (makeS l22 e n) (0 + (r45).toNat * 1) u50) = 64))) (k := ?_)
      refine WQ.op (d := 106) (.pointer (some ⟨b159, 2, none⟩)) (k := ?_)
      refine WQ.load (v := .bool (decide (List.length (List.set (makeS l22 e n) (0 + (r45).toNat * 1) u50) = 64))) (fun w_ k_ => ld1 (T := 4) (i := 2) (k_.heap hb171 id)) (k := ?_)
      refine WQ.opE (d := 108) (.bool ((decide (List.length (List.set (makeS l22 e n) (0 + (r45).toNat * 1) u50) = 64)) == (decide (List.length (List.set (makeS l22 e n) (0 + (r45).toNat * 1) u50) = 64)))) (v := .bool true) (congrArg Value.bool (beq_self_eq_true (α := Bool) (decide (List.length (List.set (makeS l22 e n) (0 + (r45).toNat * 1) u50) = 64)))) (k := ?_)
      refine WQ.op (d := 109) (.bool true) (k := ?_)
      refine WQ.op (d := 110) (.bool true) (k := ?_)
      refine WQ.op (d := 111) (.string ⟨(List.set (makeS l22 e n) (0 + (r45).toNat * 1) u50).toArray⟩) (k := ?_)
      refine WQ.op (d := 112) (.pointer (some ⟨b1, 1, none⟩)) (k := ?_)
      refine WQ.load (v := .int .u64 ((e : Nat) : Int)) (fun w_ k_ => ld1 (T := 22) (i := 1) (k_.heap hb26 id)) (k := ?_)
      refine WQ.op (d := 114) (.pointer (some ⟨b1, 2, none⟩)) (k := ?_)
      refine WQ.load (v := .int .u64 ((n : Nat) : Int)) (fun w_ k_ => ld1 (T := 22) (i := 2) (k_.heap hb26 id)) (k := ?_)
      refine WQ.callG (d := 116) (f := 21) (args := #[.string ⟨(List.set (makeS l22 e n) (0 + (r45).toNat * 1) u50).toArray⟩, .int .u64 ((e : Nat) : Int), .int .u64 ((n : Nat) : Int)]) (v := .bool (decide (isCell (List.set (makeS l22 e n) (0 + (r45).toNat * 1) u50) ∧ rdE (List.set (makeS l22 e n) (0 + (r45).toNat * 1) u50) = e ∧ rdN (List.set (makeS l22 e n) (0 + (r45).toNat * 1) u50) = n))) (fun w_ k_ => fWhole_c (l := List.set (makeS l22 e n) (0 + (r45).toNat * 1) u50) (e := e) (n := n) (by show List.length (List.set (makeS l22 e n) (0 + (r45).toNat * 1) u50) ≤ _; first | omega | (simp; done) | (simp; omega)) w_) addsR (k := ?_)
      refine WQ.op (d := 117) (.string ⟨(List.set (makeS l22 e n) (0 + (r45).toNat * 1) u50).toArray⟩) (k := ?_)
      refine WQ.op (d := 118) (.pointer (some ⟨b1, 1, none⟩)) (k := ?_)
      refine WQ.load (v := .int .u64 ((e : Nat) : Int)) (fun w_ k_ => ld1 (T := 22) (i := 1) (k_.heap hb26 id)) (k := ?_)
      refine WQ.op (d := 120) (.pointer (some ⟨b1, 2, none⟩)) (k := ?_)
      refine WQ.load (v := .int .u64 ((n : Nat) : Int)) (fun w_ k_ => ld1 (T := 22) (i := 2) (k_.heap hb26 id)) (k := ?_)
      refine WQ.callG (d := 122) (f := 22) (args := #[.string ⟨(List.set (makeS l22 e n) (0 + (r45).toNat * 1) u50).toArray⟩, .int .u64 ((e : Nat) : Int), .int .u64 ((n : Nat) : Int)]) (v := .bool (decide (isCell (List.set (makeS l22 e n) (0 + (r45).toNat * 1) u50) ∧ rdE (List.set (makeS l22 e n) (0 + (r45).toNat * 1) u50) = e ∧ rdN (List.set (makeS l22 e n) (0 + (r45).toNat * 1) u50) = n))) (fun w_ k_ => u04Whole_c (l := List.set (makeS l22 e n) (0 + (r45).toNat * 1) u50) (e := e) (n := n) (by show List.length (List.set (makeS l22 e n) (0 + (r45).toNat * 1) u50) ≤ _; first | omega | (simp; done) | (simp; omega)) w_) addsR (k := ?_)
      refine WQ.opE (d := 123) (.bool ((decide (isCell (List.set (makeS l22 e n) (0 + (r45).toNat * 1) u50) ∧ rdE (List.set (makeS l22 e n) (0 + (r45).toNat * 1) u50) = e ∧ rdN (List.set (makeS l22 e n) (0 + (r45).toNat * 1) u50) = n)) == (decide (isCell (List.set (makeS l22 e n) (0 + (r45).toNat * 1) u50) ∧ rdE (List.set (makeS l22 e n) (0 + (r45).toNat * 1) u50) = e ∧ rdN (List.set (makeS l22 e n) (0 + (r45).toNat * 1) u50) = n)))) (v := .bool true) (congrArg Value.bool (beq_self_eq_true (α := Bool) (decide (isCell (List.set (makeS l22 e n) (0 + (r45).toNat * 1) u50) ∧ rdE (List.set (makeS l22 e n) (0 + (r45).toNat * 1) u50) = e ∧ rdN (List.set (makeS l22 e n) (0 + (r45).toNat * 1) u50) = n)))) (k := ?_)
      refine WQ.op (d := 124) (.bool true) (k := ?_)
      refine WQ.op (d := 6) (.bool true) (k := ?_)
      refine WQ.nilX (fun w173 k174 => ?_)
      replace hb26 := k174.heap hb26 id
      replace hb10 := k174.heap hb10 id
      replace hy54 := hy54.keeps k174 id
      replace hb131 := k174.heap hb131 id
      replace hb149 := k174.heap hb149 id
      replace hb171 := k174.heap hb171 id
      replace K := K.trans (k174.any _)
      refine WX.seqN ?_
      refine WC.ret ?_
      refine WX.ret (rs := [.tmp 6]) [.bool true] (.bool true) ⟨(by kernel_rfl), trivial⟩ (k := ?_)
      exact ⟨rfl, K⟩
  · have ph20 := of_bne_false h20
    refine WC.skip ?_
    refine WX.seqN ?_
    refine WC.seq ?_
    refine WC.region ?_
    refine WL.op (d := 64) (.string ⟨(l17).toArray⟩) (k := ?_)
    refine WL.callG (d := 65) (f := 17) (args := #[.string ⟨(l17).toArray⟩]) (fRead_c (l := l17) (by show List.length l17 ≤ _; first | omega | (simp; done) | (simp; omega)) w16) (k := fun e_ w178 h_ => ⟨.tuple #[.agg #[.string ⟨(rdP l17).toArray⟩, .int .u64 ((rdE l17 : Nat) : Int), .int .u64 ((rdN l17 : Nat) : Int)], .bool (decide (isCell l17))], h_.1, ?_⟩)
    have k179 := h_.2; clear h_
    replace hb4 := k179.heap hb4 id
    replace hb10 := k179.heap hb10 id
    replace K := K.trans (k179.any _)
    have te175 := rdE_lt l17
    have te176 := rdN_lt l17
    have te177 := rdP_len l17
    refine WL.op (d := 63) (.tuple #[.agg #[.string ⟨(rdP l17).toArray⟩, .int .u64 ((rdE l17 : Nat) : Int), .int .u64 ((rdN l17 : Nat) : Int)], .bool (decide (isCell l17))]) (k := ?_)
    refine WL.op (d := 66) (.agg #[.string ⟨(rdP l17).toArray⟩, .int .u64 ((rdE l17 : Nat) : Int), .int .u64 ((rdN l17 : Nat) : Int)]) (k := ?_)
    refine WL.op (d := 67) (.bool (decide (isCell l17))) (k := ?_)
    refine WL.new (d := 12) (T := 24) #[.string ⟨#[]⟩, .int .u64 0, .int .u64 0] (k := fun b180 w181 g182 hb183 k184 => ?_)
    have z185 := Nat.le_trans K.size g182
    have n186 : b1 ≠ b180 := Nat.ne_of_lt (Nat.lt_of_lt_of_le (lt_of_heap hb4) g182)
    have n187 : b7 ≠ b180 := Nat.ne_of_lt (Nat.lt_of_lt_of_le (lt_of_heap hb10) g182)
    replace hb4 := k184.heap hb4 id
    replace hb10 := k184.heap hb10 id
    replace K := K.trans (k184.any _)
    refine WL.store (v := .agg #[.string ⟨(rdP l17).toArray⟩, .int .u64 ((rdE l17 : Nat) : Int), .int .u64 ((rdN l17 : Nat) : Int)]) (i := 0) (cs' := #[.string ⟨(rdP l17).toArray⟩, .int .u64 ((rdE l17 : Nat) : Int), .int .u64 ((rdN l17 : Nat) : Int)]) hb183 (k := fun w188 hb189 k190 => ?_)
    replace hb4 := k190.heap hb4 n186
    replace hb10 := k190.heap hb10 n187
    replace K := K.trans' k190 (fun i hi e => absurd (e ▸ hi) (Nat.not_lt.2 z185))
    clear hb183
    refine WL.op (d := 13) (.bool (decide (isCell l17))) (k := ?_)
    refine WL.nil ?_
    refine WX.seqN ?_
    refine WC.seq ?_
    refine WC.region ?_
    refine WL.op (d := 69) (.string ⟨(l17).toArray⟩) (k := ?_)
    refine WL.callG (d := 70) (f := 18) (args := #[.string ⟨(l17).toArray⟩]) (u04Read_c (l := l17) (by show List.length l17 ≤ _; first | omega | (simp; done) | (simp; omega)) w188) (k := fun e_ w194 h_ => ⟨.tuple #[.agg #[.string ⟨(rdP l17).toArray⟩, .int .u64 ((rdE l17 : Nat) : Int), .int .u64 ((rdN l17 : Nat) : Int)], .bool (decide (isCell l17))], h_.1, ?_⟩)
    have k195 := h_.2; clear h_
    replace hb4 := k195.heap hb4 id
    replace hb10 := k195.heap hb10 id
    replace hb189 := k195.heap hb189 id
    replace K := K.trans (k195.any _)
    have te191 := rdE_lt l17
    have te192 := rdN_lt l17
    have te193 := rdP_len l17
    refine WL.op (d := 68) (.tuple #[.agg #[.string ⟨(rdP l17).toArray⟩, .int .u64 ((rdE l17 : Nat) : Int), .int .u64 ((rdN l17 : Nat) : Int)], .bool (decide (isCell l17))]) (k := ?_)
    refine WL.op (d := 71) (.agg #[.string ⟨(rdP l17).toArray⟩, .int .u64 ((rdE l17 : Nat) : Int), .int .u64 ((rdN l17 : Nat) : Int)]) (k := ?_)
    refine WL.op (d := 72) (.bool (decide (isCell l17))) (k := ?_)
    refine WL.new (d := 14) (T := 24) #[.string ⟨#[]⟩, .int .u64 0, .int .u64 0] (k := fun b196 w197 g198 hb199 k200 => ?_)
    have z201 := Nat.le_trans K.size g198
    have n202 : b1 ≠ b196 := Nat.ne_of_lt (Nat.lt_of_lt_of_le (lt_of_heap hb4) g198)
    have n203 : b7 ≠ b196 := Nat.ne_of_lt (Nat.lt_of_lt_of_le (lt_of_heap hb10) g198)
    have n204 : b180 ≠ b196 := Nat.ne_of_lt (Nat.lt_of_lt_of_le (lt_of_heap hb189) g198)
    replace hb4 := k200.heap hb4 id
    replace hb10 := k200.heap hb10 id
    replace hb189 := k200.heap hb189 id
    replace K := K.trans (k200.any _)
    refine WL.store (v := .agg #[.string ⟨(rdP l17).toArray⟩, .int .u64 ((rdE l17 : Nat) : Int), .int .u64 ((rdN l17 : Nat) : Int)]) (i := 0) (cs' := #[.string ⟨(rdP l17).toArray⟩, .int .u64 ((rdE l17 : Nat) : Int), .int .u64 ((rdN l17 : Nat) : Int)]) hb199 (k := fun w205 hb206 k207 => ?_)
    replace hb4 := k207.heap hb4 n202
    replace hb10 := k207.heap hb10 n203
    replace hb189 := k207.heap hb189 n204
    replace K := K.trans' k207 (fun i hi e => absurd (e ▸ hi) (Nat.not_lt.2 z201))
    clear hb199
    refine WL.op (d := 15) (.bool (decide (isCell l17))) (k := ?_)
    refine WL.nil ?_
    refine WX.seqN ?_
    refine WC.seq ?_
    refine WC.region ?_
    refine WL.op (d := 74) (.string ⟨(l17).toArray⟩) (k := ?_)
    refine WL.callG (d := 75) (f := 19) (args := #[.string ⟨(l17).toArray⟩]) (fTag_c (l := l17) (by show List.length l17 ≤ _; first | omega | (simp; done) | (simp; omega)) w205) (k := fun e_ w210 h_ => ⟨.tuple #[.int .u64 ((tgE l17 : Nat) : Int), .int .u64 ((tgN l17 : Nat) : Int), .bool (decide (List.length l17 = 64))], h_.1, ?_⟩)
    have k211 := h_.2; clear h_
    replace hb4 := k211.heap hb4 id
    replace hb10 := k211.heap hb10 id
    replace hb189 := k211.heap hb189 id
    replace hb206 := k211.heap hb206 id
    replace K := K.trans (k211.any _)
    have te208 := tgE_lt l17
    have te209 := tgN_lt l17
    refine WL.op (d := 73) (.tuple #[.int .u64 ((tgE l17 : Nat) : Int), .int .u64 ((tgN l17 : Nat) : Int), .bool (decide (List.length l17 = 64))]) (k := ?_)
    refine WL.op (d := 76) (.int .u64 ((tgE l17 : Nat) : Int)) (k := ?_)
    refine WL.op (d := 77) (.int .u64 ((tgN l17 : Nat) : Int)) (k := ?_)
    refine WL.op (d := 78) (.bool (decide (List.length l17 = 64))) (k := ?_)
    refine WL.op (d := 16) (.int .u64 ((tgE l17 : Nat) : Int)) (k := ?_)
    refine WL.op (d := 17) (.int .u64 ((tgN l17 : Nat) : Int)) (k := ?_)
    refine WL.op (d := 18) (.bool (decide (List.length l17 = 64))) (k := ?_)
    refine WL.nil ?_
    refine WX.seqN ?_
    refine WC.seq ?_
    refine WC.region ?_
    refine WL.op (d := 79) (.string ⟨(l17).toArray⟩) (k := ?_)
    refine WL.callG (d := 80) (f := 20) (args := #[.string ⟨(l17).toArray⟩]) (u04Tag_c (l := l17) (by show List.length l17 ≤ _; first | omega | (simp; done) | (simp; omega)) w210) (k := fun e_ w214 h_ => ⟨.agg #[.int .u64 ((tgE l17 : Nat) : Int), .int .u64 ((tgN l17 : Nat) : Int), .bool (decide (List.length l17 = 64))], h_.1, ?_⟩)
    have k215 := h_.2; clear h_
    replace hb4 := k215.heap hb4 id
    replace hb10 := k215.heap hb10 id
    replace hb189 := k215.heap hb189 id
    replace hb206 := k215.heap hb206 id
    replace K := K.trans (k215.any _)
    have te212 := tgE_lt l17
    have te213 := tgN_lt l17
    refine WL.new (d := 19) (T := 37) #[.int .u64 0, .int .u64 0, .bool false] (k := fun b216 w217 g218 hb219 k220 => ?_)
    have z221 := Nat.le_trans K.size g218
    have n222 : b1 ≠ b216 := Nat.ne_of_lt (Nat.lt_of_lt_of_le (lt_of_heap hb4) g218)
    have n223 : b7 ≠ b216 := Nat.ne_of_lt (Nat.lt_of_lt_of_le (lt_of_heap hb10) g218)
    have n224 : b180 ≠ b216 := Nat.ne_of_lt (Nat.lt_of_lt_of_le (lt_of_heap hb189) g218)
    have n225 : b196 ≠ b216 := Nat.ne_of_lt (Nat.lt_of_lt_of_le (lt_of_heap hb206) g218)
    replace hb4 := k220.heap hb4 id
    replace hb10 := k220.heap hb10 id
    replace hb189 := k220.heap hb189 id
    replace hb206 := k220.heap hb206 id
    replace K := K.trans (k220.any _)
    refine WL.store (v := .agg #[.int .u64 ((tgE l17 : Nat) : Int), .int .u64 ((tgN l17 : Nat) : Int), .bool (decide (List.length l17 = 64))]) (i := 0) (cs' := #[.int .u64 ((tgE l17 : Nat) : Int), .int .u64 ((tgN l17 : Nat) : Int), .bool (decide (List.length l17 = 64))]) hb219 (k := fun w226 hb227 k228 => ?_)
    replace hb4 := k228.heap hb4 n222
    replace hb10 := k228.heap hb10 n223
    replace hb189 := k228.heap hb189 n224
    replace hb206 := k228.heap hb206 n225
    replace K := K.trans' k228 (fun i hi e => absurd (e ▸ hi) (Nat.not_lt.2 z221))
    clear hb219
    refine WL.nil ?_
    refine WX.seqN ?_
    refine WC.seq ?_
    refine WC.quiet (k := ?_)
    refine WQ.op (d := 81) (.bool true) (k := ?_)
    refine WQ.op (d := 82) (.bool true) (k := ?_)
    refine WQ.load (v := .agg #[.string ⟨(rdP l17).toArray⟩, .int .u64 ((rdE l17 : Nat) : Int), .int .u64 ((rdN l17 : Nat) : Int)]) (fun w_ k_ => ldN (T := 24) (i := 0) (m := 3) (l := [.string ⟨(rdP l17).toArray⟩, .int .u64 ((rdE l17 : Nat) : Int), .int .u64 ((rdN l17 : Nat) : Int)]) (k_.heap hb189 id)) (k := ?_)
    refine WQ.load (v := .agg #[.string ⟨(rdP l17).toArray⟩, .int .u64 ((rdE l17 : Nat) : Int), .int .u64 ((rdN l17 : Nat) : Int)]) (fun w_ k_ => ldN (T := 24) (i := 0) (m := 3) (l := [.string ⟨(rdP l17).toArray⟩, .int .u64 ((rdE l17 : Nat) : Int), .int .u64 ((rdN l17 : Nat) : Int)]) (k_.heap hb206 id)) (k := ?_)
    refine WQ.bin (d := 85) (v := .bool true) (fun w_ => eqCellS (rdP l17) ((rdE l17 : Nat) : Int) ((rdN l17 : Nat) : Int) w_) (k := ?_)
    refine WQ.op (d := 86) (.bool true) (k := ?_)
    refine WQ.op (d := 87) (.bool true) (k := ?_)
    refine WQ.op (d := 88) (.bool (decide (isCell l17))) (k := ?_)
    refine WQ.op (d := 89) (.bool (decide (isCell l17))) (k := ?_)
    refine WQ.opE (d := 90) (.bool ((decide (isCell l17)) == (decide (isCell l17)))) (v := .bool true) (congrArg Value.bool (beq_self_eq_true (α := Bool) (decide (isCell l17)))) (k := ?_)
    refine WQ.op (d := 91) (.bool true) (k := ?_)
    refine WQ.op (d := 92) (.bool true) (k := ?_)
    refine WQ.op (d := 93) (.int .u64 ((tgE l17 : Nat) : Int)) (k := ?_)
    refine WQ.op (d := 94) (.pointer (some ⟨b216, 0, none⟩)) (k := ?_)
    refine WQ.load (v := .int .u64 ((tgE l17 : Nat) : Int)) (fun w_ k_ => ld1 (T := 22) (i := 0) (k_.heap hb227 id)) (k := ?_)
    refine WQ.opE (d := 96) (.bool (((tgE l17 : Nat) : Int) == ((tgE l17 : Nat) : Int))) (v := .bool true) (congrArg Value.bool (beq_self_eq_true _)) (k := ?_)
    refine WQ.op (d := 97) (.bool true) (k := ?_)
    refine WQ.op (d := 98) (.bool true) (k := ?_)
    refine WQ.op (d := 99) (.int .u64 ((tgN l17 : Nat) : Int)) (k := ?_)
    refine WQ.op (d := 100) (.pointer (some ⟨b216, 1, none⟩)) (k := ?_)
    refine WQ.load (v := .int .u64 ((tgN l17 : Nat) : Int)) (fun w_ k_ => ld1 (T := 22) (i := 1) (k_.heap hb227 id)) (k := ?_)
    refine WQ.opE (d := 102) (.bool (((tgN l17 : Nat) : Int) == ((tgN l17 : Nat) : Int))) (v := .bool true) (congrArg Value.bool (beq_self_eq_true _)) (k := ?_)
    refine WQ.op (d := 103) (.bool true) (k := ?_)
    refine WQ.op (d := 104) (.bool true) (k := ?_)
    refine WQ.op (d := 105) (.bool (decide (List.length l17 = 64))) (k := ?_)
    refine WQ.op (d := 106) (.pointer (some ⟨b216, 2, none⟩)) (k := ?_)
    refine WQ.load (v := .bool (decide (List.length l17 = 64))) (fun w_ k_ => ld1 (T := 4) (i := 2) (k_.heap hb227 id)) (k := ?_)
    refine WQ.opE (d := 108) (.bool ((decide (List.length l17 = 64)) == (decide (List.length l17 = 64)))) (v := .bool true) (congrArg Value.bool (beq_self_eq_true (α := Bool) (decide (List.length l17 = 64)))) (k := ?_)
    refine WQ.op (d := 109) (.bool true) (k := ?_)
    refine WQ.op (d := 110) (.bool true) (k := ?_)
    refine WQ.op (d := 111) (.string ⟨(l17).toArray⟩) (k := ?_)
    refine WQ.op (d := 112) (.pointer (some ⟨b1, 1, none⟩)) (k := ?_)
    refine WQ.load (v := .int .u64 ((e : Nat) : Int)) (fun w_ k_ => ld1 (T := 22) (i := 1) (k_.heap hb4 id)) (k := ?_)
    refine WQ.op (d := 114) (.pointer (some ⟨b1, 2, none⟩)) (k := ?_)
    refine WQ.load (v := .int .u64 ((n : Nat) : Int)) (fun w_ k_ => ld1 (T := 22) (i := 2) (k_.heap hb4 id)) (k := ?_)
    refine WQ.callG (d := 116) (f := 21) (args := #[.string ⟨(l17).toArray⟩, .int .u64 ((e : Nat) : Int), .int .u64 ((n : Nat) : Int)]) (v := .bool (decide (isCell l17 ∧ rdE l17 = e ∧ rdN l17 = n))) (fun w_ k_ => fWhole_c (l := l17) (e := e) (n := n) (by show List.length l17 ≤ _; first | omega | (simp; done) | (simp; omega)) w_) addsR (k := ?_)
    refine WQ.op (d := 117) (.string ⟨(l17).toArray⟩) (k := ?_)
    refine WQ.op (d := 118) (.pointer (some ⟨b1, 1, none⟩)) (k := ?_)
    refine WQ.load (v := .int .u64 ((e : Nat) : Int)) (fun w_ k_ => ld1 (T := 22) (i := 1) (k_.heap hb4 id)) (k := ?_)
    refine WQ.op (d := 120) (.pointer (some ⟨b1, 2, none⟩)) (k := ?_)
    refine WQ.load (v := .int .u64 ((n : Nat) : Int)) (fun w_ k_ => ld1 (T := 22) (i := 2) (k_.heap hb4 id)) (k := ?_)
    refine WQ.callG (d := 122) (f := 22) (args := #[.string ⟨(l17).toArray⟩, .int .u64 ((e : Nat) : Int), .int .u64 ((n : Nat) : Int)]) (v := .bool (decide (isCell l17 ∧ rdE l17 = e ∧ rdN l17 = n))) (fun w_ k_ => u04Whole_c (l := l17) (e := e) (n := n) (by show List.length l17 ≤ _; first | omega | (simp; done) | (simp; omega)) w_) addsR (k := ?_)
    refine WQ.opE (d := 123) (.bool ((decide (isCell l17 ∧ rdE l17 = e ∧ rdN l17 = n)) == (decide (isCell l17 ∧ rdE l17 = e ∧ rdN l17 = n)))) (v := .bool true) (congrArg Value.bool (beq_self_eq_true (α := Bool) (decide (isCell l17 ∧ rdE l17 = e ∧ rdN l17 = n)))) (k := ?_)
    refine WQ.op (d := 124) (.bool true) (k := ?_)
    refine WQ.op (d := 6) (.bool true) (k := ?_)
    refine WQ.nilX (fun w229 k230 => ?_)
    replace hb4 := k230.heap hb4 id
    replace hb10 := k230.heap hb10 id
    replace hb189 := k230.heap hb189 id
    replace hb206 := k230.heap hb206 id
    replace hb227 := k230.heap hb227 id
    replace K := K.trans (k230.any _)
    refine WX.seqN ?_
    refine WC.ret ?_
    refine WX.ret (rs := [.tmp 6]) [.bool true] (.bool true) ⟨(by kernel_rfl), trivial⟩ (k := ?_)
    exact ⟨rfl, K⟩

theorem flat_succ {xs : List (List UInt8)} {i : Int} {r : List UInt8} (h0 : 0 ≤ i) (hr : xs[i.toNat]? = some r) : (xs.take i.toNat).flatten ++ r = (xs.take (i + 1).toNat).flatten := by
  rw [take_succI h0 hr]; simp
theorem flat_le (l : List UInt8) (k : Nat) : ((chunks l).take k).flatten.length ≤ l.length := by
  conv => rhs; rw [← chunks_flat (l := l), ← List.take_append_drop k (chunks l)]
  rw [List.flatten_append, List.length_append]; omega

set_option maxRecDepth 100000 in
set_option maxHeartbeats 4000000 in
theorem lFrameChunks_c {o : List UInt8} (hom : o.length ≤ 9223372036854775807) (w : World) : Calls Tryd.prog 7 #[.string ⟨o.toArray⟩] w fun e_ w' => e_ = .returned (.bool true) ∧ Adds w w' := by
  have K : Keeps (fun _ => False) w w := Keeps.refl _ w
  refine Calls.start Tryd.func7 rfl (by kernel_rfl) ?_
  refine WC.seq ?_
  refine WC.region ?_
  refine WL.op (d := 2) (.bool false) (k := ?_)
  refine WL.nil ?_
  refine WX.seqN ?_
  refine WC.seq ?_
  refine WC.region ?_
  refine WL.callG (d := 9) (f := 14) (args := #[]) (l04awake_c w) (k := fun e_ w1 h_ => ⟨.bool true, h_.1, ?_⟩)
  have k2 := h_.2; clear h_
  replace K := K.trans (k2.any _)
  refine WL.op (d := 3) (.bool true) (k := ?_)
  refine WL.nil ?_
  refine WX.seqN ?_
  refine WC.seq ?_
  refine WC.region ?_
  refine WL.op (d := 10) (.string ⟨(o).toArray⟩) (k := ?_)
  refine WL.callG (d := 11) (f := 15) (args := #[.string ⟨(o).toArray⟩, .int .i64 400]) (l04short_c o 400 (by omega) (by show List.length o ≤ _; first | omega | (simp; done) | (simp; omega)) w1) (k := fun e_ w3 h_ => ?_)
  obtain ⟨l4, hl5, rfl, k6⟩ := h_
  refine ⟨_, rfl, ?_⟩
  replace K := K.trans (k6.any _)
  refine WL.op (d := 0) (.string ⟨(l4).toArray⟩) (k := ?_)
  refine WL.nil ?_
  refine WX.seqN ?_
  refine WC.seq ?_
  refine WC.region ?_
  refine WL.op (d := 12) (.string ⟨(l4).toArray⟩) (k := ?_)
  refine WL.callG (d := 13) (f := 25) (args := #[.string ⟨(l4).toArray⟩]) (fChunks_c (l := l4) (by show List.length l4 ≤ _; first | omega | (simp; done) | (simp; omega)) w3) (k := fun e_ w8 h_ => ?_)
  obtain ⟨A9, c10, rfl, ho11, k12, ol13⟩ := h_
  refine ⟨_, rfl, ?_⟩
  have ol14 := fun i h => Nat.le_trans K.size (ol13 i h)
  replace K := K.trans (k12.any _)
  clear ol13
  have cl7 := chunks_len (l := l4)
  refine WL.op (d := 4) (.slice A9 ((chunks l4).length) c10) (k := ?_)
  refine WL.nil ?_
  refine WX.seqN ?_
  refine WC.seq ?_
  refine WC.seq ?_
  have cp_ := chunks_pos l4
  refine WC.region ?_
  refine WL.op (d := 14) (.slice A9 ((chunks l4).length) c10) (k := ?_)
  refine WL.op (d := 15) (.int .i64 ((chunks l4).length : Int)) (k := ?_)
  refine WL.op (d := 16) (.bool (((chunks l4).length : Int) == 0)) (k := ?_)
  refine WL.nil ?_
  refine WX.seqN ?_
  refine WC.cond (b := ((chunks l4).length : Int) == 0) (ht := fun h15 => ?_) (hf := fun h15 => ?_)
  · have ph15 := eq_of_beq h15
    refine WC.seq ?_
    refine WC.region ?_
    refine WL.op (d := 2) (.bool false) (k := ?_)
    refine WL.nil ?_
    refine WX.seqN ?_
    refine WC.ret ?_
    refine WX.seqR ?_
    refine WX.ret (rs := [.tmp 2]) [.bool false] (.bool false) ⟨(by kernel_rfl), trivial⟩ (k := ?_)
    exfalso; omega
  · have ph15 := ne_of_beq_false h15
    refine WC.skip ?_
    refine WX.seqN ?_
    refine WC.seq ?_
    refine WC.region ?_
    refine WL.op (d := 5) (.string ⟨#[]⟩) (k := ?_)
    refine WL.nil ?_
    refine WX.seqN ?_
    refine WC.seq ?_
    refine WC.seq ?_
    refine WC.region ?_
    refine WL.op (d := 6) (.int .i64 0) (k := ?_)
    refine WL.nil ?_
    refine WX.seqN ?_
    refine WC.block ?_
    refine WC.rw (t := 5) (v := .string ⟨(List.flatten (List.take (0 : Int).toNat (chunks l4))).toArray⟩) (congrArg (fun l : List UInt8 => Value.string ⟨l.toArray⟩) (show [] = List.flatten (List.take (0 : Int).toNat (chunks l4)) by simp)) (k := ?_)
    refine WC.loop (ι := Int) (fun (i : Int) => [(0, .string ⟨(l4).toArray⟩), (9, .bool true), (3, .bool true), (10, .string ⟨(o).toArray⟩), (11, .string ⟨(l4).toArray⟩), (12, .string ⟨(l4).toArray⟩), (13, .slice A9 ((chunks l4).length) c10), (4, .slice A9 ((chunks l4).length) c10), (14, .slice A9 ((chunks l4).length) c10), (15, .int .i64 ((chunks l4).length : Int)), (16, .bool (((chunks l4).length : Int) == 0)), (6, .int .i64 i), (5, .string ⟨(List.flatten (List.take i.toNat (chunks l4))).toArray⟩)]) (fun (i : Int) (w_ : World) => (Keeps (fun _ => False) w w_) ∧ (OwAt strC 1 9 A9 c10 (chunks l4) w_) ∧ (∀ i, blk A9 = some i → w.heap.size ≤ i) ∧ (0 ≤ i) ∧ (i ≤ (chunks l4).length)) (fun (i : Int) => ((chunks l4).length - i).toNat) 0 ⟨(by kernel_rfl), (by kernel_rfl), (by kernel_rfl), (by kernel_rfl), (by kernel_rfl), (by kernel_rfl), (by kernel_rfl), (by kernel_rfl), (by kernel_rfl), (by kernel_rfl), (by kernel_rfl), (by kernel_rfl), (by kernel_rfl), trivial⟩ ⟨K, ho11, ol14, Int.le_refl 0, (by omega)⟩ ?_
    rintro i w16 ⟨K, hb17, ol18, i0, i1⟩
    have fl_ := flat_le l4 i.toNat
    refine WC.seq ?_
    refine WC.seq ?_
    refine WC.region ?_
    refine WL.op (d := 17) (.int .i64 i) (k := ?_)
    refine WL.op (d := 18) (.slice A9 ((chunks l4).length) c10) (k := ?_)
    refine WL.op (d := 19) (.int .i64 ((chunks l4).length : Int)) (k := ?_)
    refine WL.op (d := 20) (.bool (decide (i < ((chunks l4).length : Int)))) (k := ?_)
    refine WL.nil ?_
    refine WX.seqN ?_
    refine WC.cond (b := decide (i < ((chunks l4).length : Int))) (ht := fun h19 => ?_) (hf := fun h19 => ?_)
    · have ph19 := of_decide_eq_true h19
      refine WC.skip ?_
      refine WX.seqN ?_
      refine WC.seq ?_
      refine WC.block ?_
      refine WC.seq ?_
      refine WC.seq ?_
      refine WC.region ?_
      refine WL.op (d := 23) (.int .i64 i) (k := ?_)
      refine WL.opE (d := 24) (.int .i64 (IntKind.i64.wrap (i + 1))) (v := .int .i64 (i + 1)) (congrArg (Value.int .i64) (IntWalk.i64_in _ (by omega))) (k := ?_)
      refine WL.op (d := 25) (.slice A9 ((chunks l4).length) c10) (k := ?_)
      refine WL.op (d := 26) (.int .i64 ((chunks l4).length : Int)) (k := ?_)
      refine WL.op (d := 27) (.bool (decide ((i + 1) < ((chunks l4).length : Int)))) (k := ?_)
      refine WL.op (d := 28) (.bool (decide ((i + 1) < ((chunks l4).length : Int)))) (k := ?_)
      refine bsplit (decide ((i + 1) < ((chunks l4).length : Int))) (fun h20 => ?_) (fun h20 => ?_)
      · have ph20 := of_decide_eq_true h20
        refine WL.rw (t := 28) (v := .bool true) (congrArg Value.bool h20) (k := ?_)
        refine WL.op (d := 29) (.slice A9 ((chunks l4).length) c10) (k := ?_)
        refine WL.op (d := 30) (.int .i64 i) (k := ?_)
        obtain ⟨b21, o22, r23, hr24, hA25, he26⟩ := SlAt.at (hb17.sl ekStr) (i := i) (by omega) (by omega)
        refine WL.rw (t := 29) (v := .slice (some ⟨b21, o22, none⟩) ((chunks l4).length) c10) (congrArg (fun a => Value.slice a ((chunks l4).length) c10) hA25) (k := ?_)
        have cm_r23 := chunks_mem (List.mem_of_getElem? hr24)
        have cf_r23 := Decidable.not_or_of_imp (chunks_full hr24)
        have cs_r23 := fun h => chunks_some hr24 (Or.inl h)
        refine WL.idx (T := 44) (E := 9) (m := 1) (b := b21) (o := o22) (len := (chunks l4).length) (cap := c10) (i := i) (kk := .i64) (d := 31) (by omega) (by omega) (k := ?_)
        refine WL.rw (t := 29) (v := .slice A9 ((chunks l4).length) c10) (congrArg (fun a => Value.slice a ((chunks l4).length) c10) (Eq.symm hA25)) (k := ?_)
        refine WL.load (v := .string ⟨(r23).toArray⟩) (he26.ld0 (T := 9)) (k := ?_)
        refine WL.op (d := 33) (.int .i64 (r23.length : Int)) (k := ?_)
        refine WL.op (d := 34) (.bool ((r23.length : Int) != 43)) (k := ?_)
        refine WL.op (d := 35) (.bool ((r23.length : Int) != 43)) (k := ?_)
        refine WL.op (d := 36) (.bool ((r23.length : Int) != 43)) (k := ?_)
        refine bsplit ((r23.length : Int) != 43) (fun h27 => ?_) (fun h27 => ?_)
        · have ph27 := bne_iff_ne.1 h27
          refine WL.rw (t := 36) (v := .bool true) (congrArg Value.bool h27) (k := ?_)
          refine WL.skip (d := 37) (k := ?_)
          refine WL.skip (d := 38) (k := ?_)
          refine WL.skip (d := 39) (k := ?_)
          refine WL.skip (d := 40) (k := ?_)
          refine WL.skip (d := 41) (k := ?_)
          refine WL.skip (d := 42) (k := ?_)
          refine WL.op (d := 43) (.bool true) (k := ?_)
          refine WL.op (d := 44) (.bool true) (k := ?_)
          refine WL.skip (d := 45) (k := ?_)
          refine WL.skip (d := 46) (k := ?_)
          refine WL.skip (d := 47) (k := ?_)
          refine WL.skip (d := 48) (k := ?_)
          refine WL.skip (d := 49) (k := ?_)
          refine WL.skip (d := 50) (k := ?_)
          refine WL.skip (d := 51) (k := ?_)
          refine WL.skip (d := 52) (k := ?_)
          refine WL.skip (d := 53) (k := ?_)
          refine WL.op (d := 54) (.bool true) (k := ?_)
          refine WL.nil ?_
          refine WX.seqN ?_
          refine WC.condT (k := ?_)
          refine WC.seq ?_
          refine WC.region ?_
          refine WL.op (d := 2) (.bool false) (k := ?_)
          refine WL.nil ?_
          refine WX.seqN ?_
          refine WC.ret ?_
          refine WX.seqR ?_
          refine WX.blockR ?_
          refine WX.seqR ?_
          refine WX.seqR ?_
          refine WX.blockR ?_
          refine WX.seqR ?_
          refine WX.ret (rs := [.tmp 2]) [.bool false] (.bool false) ⟨(by kernel_rfl), trivial⟩ (k := ?_)
          exfalso; omega
        · have ph27 := of_bne_false h27
          refine WL.rw (t := 36) (v := .bool false) (congrArg Value.bool h27) (k := ?_)
          refine WL.op (d := 37) (.slice A9 ((chunks l4).length) c10) (k := ?_)
          refine WL.op (d := 38) (.int .i64 i) (k := ?_)
          obtain ⟨b28, o29, r30, hr31, hA32, he33⟩ := SlAt.at (hb17.sl ekStr) (i := i) (by omega) (by omega)
          refine WL.rw (t := 37) (v := .slice (some ⟨b28, o29, none⟩) ((chunks l4).length) c10) (congrArg (fun a => Value.slice a ((chunks l4).length) c10) hA32) (k := ?_)
          have cm_r30 := chunks_mem (List.mem_of_getElem? hr31)
          have cf_r30 := Decidable.not_or_of_imp (chunks_full hr31)
          have cs_r30 := fun h => chunks_some hr31 (Or.inl h)
          refine WL.idx (T := 44) (E := 9) (m := 1) (b := b28) (o := o29) (len := (chunks l4).length) (cap := c10) (i := i) (kk := .i64) (d := 39) (by omega) (by omega) (k := ?_)
          refine WL.rw (t := 37) (v := .slice A9 ((chunks l4).length) c10) (congrArg (fun a => Value.slice a ((chunks l4).length) c10) (Eq.symm hA32)) (k := ?_)
          refine WL.load (v := .string ⟨(r30).toArray⟩) (he33.ld0 (T := 9)) (k := ?_)
          refine WL.op (d := 41) (.int .i64 (r30.length : Int)) (k := ?_)
          refine WL.op (d := 42) (.bool (decide ((r30.length : Int) > 43))) (k := ?_)
          refine WL.op (d := 43) (.bool (decide ((r30.length : Int) > 43))) (k := ?_)
          refine WL.op (d := 44) (.bool (decide ((r30.length : Int) > 43))) (k := ?_)
          refine bsplit (decide ((r30.length : Int) > 43)) (fun h34 => ?_) (fun h34 => ?_)
          · have ph34 := of_decide_eq_true h34
            refine WL.rw (t := 44) (v := .bool true) (congrArg Value.bool h34) (k := ?_)
            refine WL.skip (d := 45) (k := ?_)
            refine WL.skip (d := 46) (k := ?_)
            refine WL.skip (d := 47) (k := ?_)
            refine WL.skip (d := 48) (k := ?_)
            refine WL.skip (d := 49) (k := ?_)
            refine WL.skip (d := 50) (k := ?_)
            refine WL.skip (d := 51) (k := ?_)
            refine WL.skip (d := 52) (k := ?_)
            refine WL.skip (d := 53) (k := ?_)
            refine WL.op (d := 54) (.bool true) (k := ?_)
            refine WL.nil ?_
            refine WX.seqN ?_
            refine WC.condT (k := ?_)
            refine WC.seq ?_
            refine WC.region ?_
            refine WL.op (d := 2) (.bool false) (k := ?_)
            refine WL.nil ?_
            refine WX.seqN ?_
            refine WC.ret ?_
            refine WX.seqR ?_
            refine WX.blockR ?_
            refine WX.seqR ?_
            refine WX.seqR ?_
            refine WX.blockR ?_
            refine WX.seqR ?_
            refine WX.ret (rs := [.tmp 2]) [.bool false] (.bool false) ⟨(by kernel_rfl), trivial⟩ (k := ?_)
            exfalso; omega
          · have ph34 := of_decide_eq_false h34
            refine WL.rw (t := 44) (v := .bool false) (congrArg Value.bool h34) (k := ?_)
            refine WL.op (d := 45) (.int .i64 i) (k := ?_)
            refine WL.op (d := 46) (.bool (decide (i > 0))) (k := ?_)
            refine WL.op (d := 47) (.bool (decide (i > 0))) (k := ?_)
            refine bsplit (decide (i > 0)) (fun h35 => ?_) (fun h35 => ?_)
            · have ph35 := of_decide_eq_true h35
              refine WL.rw (t := 47) (v := .bool true) (congrArg Value.bool h35) (k := ?_)
              refine WL.op (d := 48) (.slice A9 ((chunks l4).length) c10) (k := ?_)
              refine WL.op (d := 49) (.int .i64 i) (k := ?_)
              obtain ⟨b36, o37, r38, hr39, hA40, he41⟩ := SlAt.at (hb17.sl ekStr) (i := i) (by omega) (by omega)
              refine WL.rw (t := 48) (v := .slice (some ⟨b36, o37, none⟩) ((chunks l4).length) c10) (congrArg (fun a => Value.slice a ((chunks l4).length) c10) hA40) (k := ?_)
              have cm_r38 := chunks_mem (List.mem_of_getElem? hr39)
              have cf_r38 := Decidable.not_or_of_imp (chunks_full hr39)
              have cs_r38 := fun h => chunks_some hr39 (Or.inl h)
              refine WL.idx (T := 44) (E := 9) (m := 1) (b := b36) (o := o37) (len := (chunks l4).length) (cap := c10) (i := i) (kk := .i64) (d := 50) (by omega) (by omega) (k := ?_)
              refine WL.rw (t := 48) (v := .slice A9 ((chunks l4).length) c10) (congrArg (fun a => Value.slice a ((chunks l4).length) c10) (Eq.symm hA40)) (k := ?_)
              refine WL.load (v := .string ⟨(r38).toArray⟩) (he41.ld0 (T := 9)) (k := ?_)
              refine WL.opE (d := 52) (.bool (ByteArray.toList ⟨(r38).toArray⟩ == ByteArray.toList ⟨([]).toArray⟩)) (v := .bool (decide (r38 = []))) (str_eql _ _) (k := ?_)
              refine WL.op (d := 53) (.bool (decide (r38 = []))) (k := ?_)
              refine WL.op (d := 54) (.bool (decide (r38 = []))) (k := ?_)
              refine WL.nil ?_
              refine WX.seqN ?_
              refine WC.cond (b := decide (r38 = [])) (ht := fun h42 => ?_) (hf := fun h42 => ?_)
              · have ph42 := of_decide_eq_true h42
                refine WC.seq ?_
                refine WC.region ?_
                refine WL.op (d := 2) (.bool false) (k := ?_)
                refine WL.nil ?_
                refine WX.seqN ?_
                refine WC.ret ?_
                refine WX.seqR ?_
                refine WX.blockR ?_
                refine WX.seqR ?_
                refine WX.seqR ?_
                refine WX.blockR ?_
                refine WX.seqR ?_
                refine WX.ret (rs := [.tmp 2]) [.bool false] (.bool false) ⟨(by kernel_rfl), trivial⟩ (k := ?_)
                exact absurd ph42 (cs_r38 (by omega))
              · have ph42 := of_decide_eq_false h42
                refine WC.skip ?_
                refine WX.seqN ?_
                refine WC.seq ?_
                refine WC.region ?_
                refine WL.op (d := 56) (.slice A9 ((chunks l4).length) c10) (k := ?_)
                refine WL.op (d := 57) (.int .i64 i) (k := ?_)
                obtain ⟨b43, o44, r45, hr46, hA47, he48⟩ := SlAt.at (hb17.sl ekStr) (i := i) (by omega) (by omega)
                refine WL.rw (t := 56) (v := .slice (some ⟨b43, o44, none⟩) ((chunks l4).length) c10) (congrArg (fun a => Value.slice a ((chunks l4).length) c10) hA47) (k := ?_)
                have cm_r45 := chunks_mem (List.mem_of_getElem? hr46)
                have cf_r45 := Decidable.not_or_of_imp (chunks_full hr46)
                have cs_r45 := fun h => chunks_some hr46 (Or.inl h)
                refine WL.idx (T := 44) (E := 9) (m := 1) (b := b43) (o := o44) (len := (chunks l4).length) (cap := c10) (i := i) (kk := .i64) (d := 58) (by omega) (by omega) (k := ?_)
                refine WL.rw (t := 56) (v := .slice A9 ((chunks l4).length) c10) (congrArg (fun a => Value.slice a ((chunks l4).length) c10) (Eq.symm hA47)) (k := ?_)
                refine WL.load (v := .string ⟨(r45).toArray⟩) (he48.ld0 (T := 9)) (k := ?_)
                refine WL.op (d := 60) (.int .i64 i) (k := ?_)
                refine WL.opE (d := 61) (.int .u64 (IntKind.u64.wrap i)) (v := .int .u64 ((i.toNat : Nat) : Int)) (congrArg (Value.int .u64) (by rw [IntWalk.u64_in _ (by omega)]; omega)) (k := ?_)
                refine WL.op (d := 62) (.agg #[.string ⟨(r45).toArray⟩, .int .u64 1, .int .u64 ((i.toNat : Nat) : Int)]) (k := ?_)
                refine WL.callG (d := 63) (f := 23) (args := #[.agg #[.string ⟨(r45).toArray⟩, .int .u64 1, .int .u64 ((i.toNat : Nat) : Int)]]) (fMake_ok (p := r45) (e := 1) (n := i.toNat) (by first | omega | (simp; done) | (simp; omega)) (by show List.length r45 ≤ _; first | omega | (simp; done) | (simp; omega)) (by omega) (by omega) w16) (k := fun e_ w50 h_ => ⟨.tuple #[.string ⟨(makeS r45 1 i.toNat).toArray⟩, .int .i64 0], h_.1, ?_⟩)
                have k51 := h_.2; clear h_
                replace hb17 := hb17.adds k51
                replace he26 := he26.adds k51
                replace he33 := he33.adds k51
                replace he41 := he41.adds k51
                replace he48 := he48.adds k51
                replace K := K.trans (k51.any _)
                have ml49 := makeS_len (p := r45) (by first | omega | (simp; done) | (simp; omega)) 1 i.toNat
                refine WL.op (d := 55) (.tuple #[.string ⟨(makeS r45 1 i.toNat).toArray⟩, .int .i64 0]) (k := ?_)
                refine WL.op (d := 64) (.string ⟨(makeS r45 1 i.toNat).toArray⟩) (k := ?_)
                refine WL.op (d := 65) (.int .i64 0) (k := ?_)
                refine WL.op (d := 7) (.string ⟨(makeS r45 1 i.toNat).toArray⟩) (k := ?_)
                refine WL.op (d := 8) (.int .i64 0) (k := ?_)
                refine WL.nil ?_
                refine WX.seqN ?_
                refine WC.seq ?_
                refine WC.seq ?_
                refine WC.region ?_
                refine WL.op (d := 66) (.int .i64 0) (k := ?_)
                refine WL.op (d := 67) (.bool false) (k := ?_)
                refine WL.nil ?_
                refine WX.seqN ?_
                refine WC.condF (k := ?_)
                refine WC.skip ?_
                refine WX.seqN ?_
                refine WC.region ?_
                refine WL.op (d := 68) (.string ⟨(List.flatten (List.take i.toNat (chunks l4))).toArray⟩) (k := ?_)
                refine WL.op (d := 69) (.slice A9 ((chunks l4).length) c10) (k := ?_)
                refine WL.op (d := 70) (.int .i64 i) (k := ?_)
                obtain ⟨b52, o53, r54, hr55, hA56, he57⟩ := SlAt.at (hb17.sl ekStr) (i := i) (by omega) (by omega)
                refine WL.rw (t := 69) (v := .slice (some ⟨b52, o53, none⟩) ((chunks l4).length) c10) (congrArg (fun a => Value.slice a ((chunks l4).length) c10) hA56) (k := ?_)
                have cm_r54 := chunks_mem (List.mem_of_getElem? hr55)
                have cf_r54 := Decidable.not_or_of_imp (chunks_full hr55)
                have cs_r54 := fun h => chunks_some hr55 (Or.inl h)
                refine WL.idx (T := 44) (E := 9) (m := 1) (b := b52) (o := o53) (len := (chunks l4).length) (cap := c10) (i := i) (kk := .i64) (d := 71) (by omega) (by omega) (k := ?_)
                refine WL.rw (t := 69) (v := .slice A9 ((chunks l4).length) c10) (congrArg (fun a => Value.slice a ((chunks l4).length) c10) (Eq.symm hA56)) (k := ?_)
                refine WL.load (v := .string ⟨(r54).toArray⟩) (he57.ld0 (T := 9)) (k := ?_)
                refine WL.bin (d := 73) (v := .string ⟨((List.flatten (List.take i.toNat (chunks l4))) ++ r54).toArray⟩) (cat_run (by (try simp only [List.length_append, List.length_cons, List.length_nil]); omega)) (k := ?_)
                refine WL.op (d := 5) (.string ⟨((List.flatten (List.take i.toNat (chunks l4))) ++ r54).toArray⟩) (k := ?_)
                refine WL.nil ?_
                refine WX.blockN ?_
                refine WX.seqN ?_
                refine WC.region ?_
                refine WL.op (d := 21) (.int .i64 i) (k := ?_)
                refine WL.opE (d := 22) (.int .i64 (IntKind.i64.wrap (i + 1))) (v := .int .i64 (i + 1)) (congrArg (Value.int .i64) (IntWalk.i64_in _ (by omega))) (k := ?_)
                refine WL.op (d := 6) (.int .i64 (i + 1)) (k := ?_)
                refine WL.nil ?_
                refine WX.rw (t := 5) (v := .string ⟨(List.flatten (List.take (i + 1).toNat (chunks l4))).toArray⟩) (congrArg (fun l : List UInt8 => Value.string ⟨l.toArray⟩) (flat_succ i0 hr55)) (k := ?_)
                refine WX.round (i + 1) (by show ((chunks l4).length - (i + 1)).toNat < ((chunks l4).length - i).toNat; omega) ⟨(by kernel_rfl), (by kernel_rfl), (by kernel_rfl), (by kernel_rfl), (by kernel_rfl), (by kernel_rfl), (by kernel_rfl), (by kernel_rfl), (by kernel_rfl), (by kernel_rfl), (by kernel_rfl), (by kernel_rfl), (by kernel_rfl), trivial⟩ ⟨K, hb17, ol18, (by omega), (by omega)⟩
            · have ph35 := of_decide_eq_false h35
              refine WL.rw (t := 47) (v := .bool false) (congrArg Value.bool h35) (k := ?_)
              refine WL.skip (d := 48) (k := ?_)
              refine WL.skip (d := 49) (k := ?_)
              refine WL.skip (d := 50) (k := ?_)
              refine WL.skip (d := 51) (k := ?_)
              refine WL.skip (d := 52) (k := ?_)
              refine WL.op (d := 53) (.bool false) (k := ?_)
              refine WL.op (d := 54) (.bool false) (k := ?_)
              refine WL.nil ?_
              refine WX.seqN ?_
              refine WC.condF (k := ?_)
              refine WC.skip ?_
              refine WX.seqN ?_
              refine WC.seq ?_
              refine WC.region ?_
              refine WL.op (d := 56) (.slice A9 ((chunks l4).length) c10) (k := ?_)
              refine WL.op (d := 57) (.int .i64 i) (k := ?_)
              obtain ⟨b58, o59, r60, hr61, hA62, he63⟩ := SlAt.at (hb17.sl ekStr) (i := i) (by omega) (by omega)
              refine WL.rw (t := 56) (v := .slice (some ⟨b58, o59, none⟩) ((chunks l4).length) c10) (congrArg (fun a => Value.slice a ((chunks l4).length) c10) hA62) (k := ?_)
              have cm_r60 := chunks_mem (List.mem_of_getElem? hr61)
              have cf_r60 := Decidable.not_or_of_imp (chunks_full hr61)
              have cs_r60 := fun h => chunks_some hr61 (Or.inl h)
              refine WL.idx (T := 44) (E := 9) (m := 1) (b := b58) (o := o59) (len := (chunks l4).length) (cap := c10) (i := i) (kk := .i64) (d := 58) (by omega) (by omega) (k := ?_)
              refine WL.rw (t := 56) (v := .slice A9 ((chunks l4).length) c10) (congrArg (fun a => Value.slice a ((chunks l4).length) c10) (Eq.symm hA62)) (k := ?_)
              refine WL.load (v := .string ⟨(r60).toArray⟩) (he63.ld0 (T := 9)) (k := ?_)
              refine WL.op (d := 60) (.int .i64 i) (k := ?_)
              refine WL.opE (d := 61) (.int .u64 (IntKind.u64.wrap i)) (v := .int .u64 ((i.toNat : Nat) : Int)) (congrArg (Value.int .u64) (by rw [IntWalk.u64_in _ (by omega)]; omega)) (k := ?_)
              refine WL.op (d := 62) (.agg #[.string ⟨(r60).toArray⟩, .int .u64 1, .int .u64 ((i.toNat : Nat) : Int)]) (k := ?_)
              refine WL.callG (d := 63) (f := 23) (args := #[.agg #[.string ⟨(r60).toArray⟩, .int .u64 1, .int .u64 ((i.toNat : Nat) : Int)]]) (fMake_ok (p := r60) (e := 1) (n := i.toNat) (by first | omega | (simp; done) | (simp; omega)) (by show List.length r60 ≤ _; first | omega | (simp; done) | (simp; omega)) (by omega) (by omega) w16) (k := fun e_ w65 h_ => ⟨.tuple #[.string ⟨(makeS r60 1 i.toNat).toArray⟩, .int .i64 0], h_.1, ?_⟩)
              have k66 := h_.2; clear h_
              replace hb17 := hb17.adds k66
              replace he26 := he26.adds k66
              replace he33 := he33.adds k66
              replace he63 := he63.adds k66
              replace K := K.trans (k66.any _)
              have ml64 := makeS_len (p := r60) (by first | omega | (simp; done) | (simp; omega)) 1 i.toNat
              refine WL.op (d := 55) (.tuple #[.string ⟨(makeS r60 1 i.toNat).toArray⟩, .int .i64 0]) (k := ?_)
              refine WL.op (d := 64) (.string ⟨(makeS r60 1 i.toNat).toArray⟩) (k := ?_)
              refine WL.op (d := 65) (.int .i64 0) (k := ?_)
              refine WL.op (d := 7) (.string ⟨(makeS r60 1 i.toNat).toArray⟩) (k := ?_)
              refine WL.op (d := 8) (.int .i64 0) (k := ?_)
              refine WL.nil ?_
              refine WX.seqN ?_
              refine WC.seq ?_
              refine WC.seq ?_
              refine WC.region ?_
              refine WL.op (d := 66) (.int .i64 0) (k := ?_)
              refine WL.op (d := 67) (.bool false) (k := ?_)
              refine WL.nil ?_
              refine WX.seqN ?_
              refine WC.condF (k := ?_)
              refine WC.skip ?_
              refine WX.seqN ?_
              refine WC.region ?_
              refine WL.op (d := 68) (.string ⟨(List.flatten (List.take i.toNat (chunks l4))).toArray⟩) (k := ?_)
              refine WL.op (d := 69) (.slice A9 ((chunks l4).length) c10) (k := ?_)
              refine WL.op (d := 70) (.int .i64 i) (k := ?_)
              obtain ⟨b67, o68, r69, hr70, hA71, he72⟩ := SlAt.at (hb17.sl ekStr) (i := i) (by omega) (by omega)
              refine WL.rw (t := 69) (v := .slice (some ⟨b67, o68, none⟩) ((chunks l4).length) c10) (congrArg (fun a => Value.slice a ((chunks l4).length) c10) hA71) (k := ?_)
              have cm_r69 := chunks_mem (List.mem_of_getElem? hr70)
              have cf_r69 := Decidable.not_or_of_imp (chunks_full hr70)
              have cs_r69 := fun h => chunks_some hr70 (Or.inl h)
              refine WL.idx (T := 44) (E := 9) (m := 1) (b := b67) (o := o68) (len := (chunks l4).length) (cap := c10) (i := i) (kk := .i64) (d := 71) (by omega) (by omega) (k := ?_)
              refine WL.rw (t := 69) (v := .slice A9 ((chunks l4).length) c10) (congrArg (fun a => Value.slice a ((chunks l4).length) c10) (Eq.symm hA71)) (k := ?_)
              refine WL.load (v := .string ⟨(r69).toArray⟩) (he72.ld0 (T := 9)) (k := ?_)
              refine WL.bin (d := 73) (v := .string ⟨((List.flatten (List.take i.toNat (chunks l4))) ++ r69).toArray⟩) (cat_run (by (try simp only [List.length_append, List.length_cons, List.length_nil]); omega)) (k := ?_)
              refine WL.op (d := 5) (.string ⟨((List.flatten (List.take i.toNat (chunks l4))) ++ r69).toArray⟩) (k := ?_)
              refine WL.nil ?_
              refine WX.blockN ?_
              refine WX.seqN ?_
              refine WC.region ?_
              refine WL.op (d := 21) (.int .i64 i) (k := ?_)
              refine WL.opE (d := 22) (.int .i64 (IntKind.i64.wrap (i + 1))) (v := .int .i64 (i + 1)) (congrArg (Value.int .i64) (IntWalk.i64_in _ (by omega))) (k := ?_)
              refine WL.op (d := 6) (.int .i64 (i + 1)) (k := ?_)
              refine WL.nil ?_
              refine WX.rw (t := 5) (v := .string ⟨(List.flatten (List.take (i + 1).toNat (chunks l4))).toArray⟩) (congrArg (fun l : List UInt8 => Value.string ⟨l.toArray⟩) (flat_succ i0 hr70)) (k := ?_)
              refine WX.round (i + 1) (by show ((chunks l4).length - (i + 1)).toNat < ((chunks l4).length - i).toNat; omega) ⟨(by kernel_rfl), (by kernel_rfl), (by kernel_rfl), (by kernel_rfl), (by kernel_rfl), (by kernel_rfl), (by kernel_rfl), (by kernel_rfl), (by kernel_rfl), (by kernel_rfl), (by kernel_rfl), (by kernel_rfl), (by kernel_rfl), trivial⟩ ⟨K, hb17, ol18, (by omega), (by omega)⟩
      · have ph20 := of_decide_eq_false h20
        refine WL.rw (t := 28) (v := .bool false) (congrArg Value.bool h20) (k := ?_)
        refine WL.skip (d := 29) (k := ?_)
        refine WL.skip (d := 30) (k := ?_)
        refine WL.skip (d := 31) (k := ?_)
        refine WL.skip (d := 32) (k := ?_)
        refine WL.skip (d := 33) (k := ?_)
        refine WL.skip (d := 34) (k := ?_)
        refine WL.op (d := 35) (.bool false) (k := ?_)
        refine WL.op (d := 36) (.bool false) (k := ?_)
        refine WL.op (d := 37) (.slice A9 ((chunks l4).length) c10) (k := ?_)
        refine WL.op (d := 38) (.int .i64 i) (k := ?_)
        obtain ⟨b73, o74, r75, hr76, hA77, he78⟩ := SlAt.at (hb17.sl ekStr) (i := i) (by omega) (by omega)
        refine WL.rw (t := 37) (v := .slice (some ⟨b73, o74, none⟩) ((chunks l4).length) c10) (congrArg (fun a => Value.slice a ((chunks l4).length) c10) hA77) (k := ?_)
        have cm_r75 := chunks_mem (List.mem_of_getElem? hr76)
        have cf_r75 := Decidable.not_or_of_imp (chunks_full hr76)
        have cs_r75 := fun h => chunks_some hr76 (Or.inl h)
        refine WL.idx (T := 44) (E := 9) (m := 1) (b := b73) (o := o74) (len := (chunks l4).length) (cap := c10) (i := i) (kk := .i64) (d := 39) (by omega) (by omega) (k := ?_)
        refine WL.rw (t := 37) (v := .slice A9 ((chunks l4).length) c10) (congrArg (fun a => Value.slice a ((chunks l4).length) c10) (Eq.symm hA77)) (k := ?_)
        refine WL.load (v := .string ⟨(r75).toArray⟩) (he78.ld0 (T := 9)) (k := ?_)
        refine WL.op (d := 41) (.int .i64 (r75.length : Int)) (k := ?_)
        refine WL.op (d := 42) (.bool (decide ((r75.length : Int) > 43))) (k := ?_)
        refine WL.op (d := 43) (.bool (decide ((r75.length : Int) > 43))) (k := ?_)
        refine WL.op (d := 44) (.bool (decide ((r75.length : Int) > 43))) (k := ?_)
        refine bsplit (decide ((r75.length : Int) > 43)) (fun h79 => ?_) (fun h79 => ?_)
        · have ph79 := of_decide_eq_true h79
          refine WL.rw (t := 44) (v := .bool true) (congrArg Value.bool h79) (k := ?_)
          refine WL.skip (d := 45) (k := ?_)
          refine WL.skip (d := 46) (k := ?_)
          refine WL.skip (d := 47) (k := ?_)
          refine WL.skip (d := 48) (k := ?_)
          refine WL.skip (d := 49) (k := ?_)
          refine WL.skip (d := 50) (k := ?_)
          refine WL.skip (d := 51) (k := ?_)
          refine WL.skip (d := 52) (k := ?_)
          refine WL.skip (d := 53) (k := ?_)
          refine WL.op (d := 54) (.bool true) (k := ?_)
          refine WL.nil ?_
          refine WX.seqN ?_
          refine WC.condT (k := ?_)
          refine WC.seq ?_
          refine WC.region ?_
          refine WL.op (d := 2) (.bool false) (k := ?_)
          refine WL.nil ?_
          refine WX.seqN ?_
          refine WC.ret ?_
          refine WX.seqR ?_
          refine WX.blockR ?_
          refine WX.seqR ?_
          refine WX.seqR ?_
          refine WX.blockR ?_
          refine WX.seqR ?_
          refine WX.ret (rs := [.tmp 2]) [.bool false] (.bool false) ⟨(by kernel_rfl), trivial⟩ (k := ?_)
          exfalso; omega
        · have ph79 := of_decide_eq_false h79
          refine WL.rw (t := 44) (v := .bool false) (congrArg Value.bool h79) (k := ?_)
          refine WL.op (d := 45) (.int .i64 i) (k := ?_)
          refine WL.op (d := 46) (.bool (decide (i > 0))) (k := ?_)
          refine WL.op (d := 47) (.bool (decide (i > 0))) (k := ?_)
          refine bsplit (decide (i > 0)) (fun h80 => ?_) (fun h80 => ?_)
          · have ph80 := of_decide_eq_true h80
            refine WL.rw (t := 47) (v := .bool true) (congrArg Value.bool h80) (k := ?_)
            refine WL.op (d := 48) (.slice A9 ((chunks l4).length) c10) (k := ?_)
            refine WL.op (d := 49) (.int .i64 i) (k := ?_)
            obtain ⟨b81, o82, r83, hr84, hA85, he86⟩ := SlAt.at (hb17.sl ekStr) (i := i) (by omega) (by omega)
            refine WL.rw (t := 48) (v := .slice (some ⟨b81, o82, none⟩) ((chunks l4).length) c10) (congrArg (fun a => Value.slice a ((chunks l4).length) c10) hA85) (k := ?_)
            have cm_r83 := chunks_mem (List.mem_of_getElem? hr84)
            have cf_r83 := Decidable.not_or_of_imp (chunks_full hr84)
            have cs_r83 := fun h => chunks_some hr84 (Or.inl h)
            refine WL.idx (T := 44) (E := 9) (m := 1) (b := b81) (o := o82) (len := (chunks l4).length) (cap := c10) (i := i) (kk := .i64) (d := 50) (by omega) (by omega) (k := ?_)
            refine WL.rw (t := 48) (v := .slice A9 ((chunks l4).length) c10) (congrArg (fun a => Value.slice a ((chunks l4).length) c10) (Eq.symm hA85)) (k := ?_)
            refine WL.load (v := .string ⟨(r83).toArray⟩) (he86.ld0 (T := 9)) (k := ?_)
            refine WL.opE (d := 52) (.bool (ByteArray.toList ⟨(r83).toArray⟩ == ByteArray.toList ⟨([]).toArray⟩)) (v := .bool (decide (r83 = []))) (str_eql _ _) (k := ?_)
            refine WL.op (d := 53) (.bool (decide (r83 = []))) (k := ?_)
            refine WL.op (d := 54) (.bool (decide (r83 = []))) (k := ?_)
            refine WL.nil ?_
            refine WX.seqN ?_
            refine WC.cond (b := decide (r83 = [])) (ht := fun h87 => ?_) (hf := fun h87 => ?_)
            · have ph87 := of_decide_eq_true h87
              refine WC.seq ?_
              refine WC.region ?_
              refine WL.op (d := 2) (.bool false) (k := ?_)
              refine WL.nil ?_
              refine WX.seqN ?_
              refine WC.ret ?_
              refine WX.seqR ?_
              refine WX.blockR ?_
              refine WX.seqR ?_
              refine WX.seqR ?_
              refine WX.blockR ?_
              refine WX.seqR ?_
              refine WX.ret (rs := [.tmp 2]) [.bool false] (.bool false) ⟨(by kernel_rfl), trivial⟩ (k := ?_)
              exact absurd ph87 (cs_r83 (by omega))
            · have ph87 := of_decide_eq_false h87
              refine WC.skip ?_
              refine WX.seqN ?_
              refine WC.seq ?_
              refine WC.region ?_
              refine WL.op (d := 56) (.slice A9 ((chunks l4).length) c10) (k := ?_)
              refine WL.op (d := 57) (.int .i64 i) (k := ?_)
              obtain ⟨b88, o89, r90, hr91, hA92, he93⟩ := SlAt.at (hb17.sl ekStr) (i := i) (by omega) (by omega)
              refine WL.rw (t := 56) (v := .slice (some ⟨b88, o89, none⟩) ((chunks l4).length) c10) (congrArg (fun a => Value.slice a ((chunks l4).length) c10) hA92) (k := ?_)
              have cm_r90 := chunks_mem (List.mem_of_getElem? hr91)
              have cf_r90 := Decidable.not_or_of_imp (chunks_full hr91)
              have cs_r90 := fun h => chunks_some hr91 (Or.inl h)
              refine WL.idx (T := 44) (E := 9) (m := 1) (b := b88) (o := o89) (len := (chunks l4).length) (cap := c10) (i := i) (kk := .i64) (d := 58) (by omega) (by omega) (k := ?_)
              refine WL.rw (t := 56) (v := .slice A9 ((chunks l4).length) c10) (congrArg (fun a => Value.slice a ((chunks l4).length) c10) (Eq.symm hA92)) (k := ?_)
              refine WL.load (v := .string ⟨(r90).toArray⟩) (he93.ld0 (T := 9)) (k := ?_)
              refine WL.op (d := 60) (.int .i64 i) (k := ?_)
              refine WL.opE (d := 61) (.int .u64 (IntKind.u64.wrap i)) (v := .int .u64 ((i.toNat : Nat) : Int)) (congrArg (Value.int .u64) (by rw [IntWalk.u64_in _ (by omega)]; omega)) (k := ?_)
              refine WL.op (d := 62) (.agg #[.string ⟨(r90).toArray⟩, .int .u64 1, .int .u64 ((i.toNat : Nat) : Int)]) (k := ?_)
              refine WL.callG (d := 63) (f := 23) (args := #[.agg #[.string ⟨(r90).toArray⟩, .int .u64 1, .int .u64 ((i.toNat : Nat) : Int)]]) (fMake_ok (p := r90) (e := 1) (n := i.toNat) (by first | omega | (simp; done) | (simp; omega)) (by show List.length r90 ≤ _; first | omega | (simp; done) | (simp; omega)) (by omega) (by omega) w16) (k := fun e_ w95 h_ => ⟨.tuple #[.string ⟨(makeS r90 1 i.toNat).toArray⟩, .int .i64 0], h_.1, ?_⟩)
              have k96 := h_.2; clear h_
              replace hb17 := hb17.adds k96
              replace he78 := he78.adds k96
              replace he86 := he86.adds k96
              replace he93 := he93.adds k96
              replace K := K.trans (k96.any _)
              have ml94 := makeS_len (p := r90) (by first | omega | (simp; done) | (simp; omega)) 1 i.toNat
              refine WL.op (d := 55) (.tuple #[.string ⟨(makeS r90 1 i.toNat).toArray⟩, .int .i64 0]) (k := ?_)
              refine WL.op (d := 64) (.string ⟨(makeS r90 1 i.toNat).toArray⟩) (k := ?_)
              refine WL.op (d := 65) (.int .i64 0) (k := ?_)
              refine WL.op (d := 7) (.string ⟨(makeS r90 1 i.toNat).toArray⟩) (k := ?_)
              refine WL.op (d := 8) (.int .i64 0) (k := ?_)
              refine WL.nil ?_
              refine WX.seqN ?_
              refine WC.seq ?_
              refine WC.seq ?_
              refine WC.region ?_
              refine WL.op (d := 66) (.int .i64 0) (k := ?_)
              refine WL.op (d := 67) (.bool false) (k := ?_)
              refine WL.nil ?_
              refine WX.seqN ?_
              refine WC.condF (k := ?_)
              refine WC.skip ?_
              refine WX.seqN ?_
              refine WC.region ?_
              refine WL.op (d := 68) (.string ⟨(List.flatten (List.take i.toNat (chunks l4))).toArray⟩) (k := ?_)
              refine WL.op (d := 69) (.slice A9 ((chunks l4).length) c10) (k := ?_)
              refine WL.op (d := 70) (.int .i64 i) (k := ?_)
              obtain ⟨b97, o98, r99, hr100, hA101, he102⟩ := SlAt.at (hb17.sl ekStr) (i := i) (by omega) (by omega)
              refine WL.rw (t := 69) (v := .slice (some ⟨b97, o98, none⟩) ((chunks l4).length) c10) (congrArg (fun a => Value.slice a ((chunks l4).length) c10) hA101) (k := ?_)
              have cm_r99 := chunks_mem (List.mem_of_getElem? hr100)
              have cf_r99 := Decidable.not_or_of_imp (chunks_full hr100)
              have cs_r99 := fun h => chunks_some hr100 (Or.inl h)
              refine WL.idx (T := 44) (E := 9) (m := 1) (b := b97) (o := o98) (len := (chunks l4).length) (cap := c10) (i := i) (kk := .i64) (d := 71) (by omega) (by omega) (k := ?_)
              refine WL.rw (t := 69) (v := .slice A9 ((chunks l4).length) c10) (congrArg (fun a => Value.slice a ((chunks l4).length) c10) (Eq.symm hA101)) (k := ?_)
              refine WL.load (v := .string ⟨(r99).toArray⟩) (he102.ld0 (T := 9)) (k := ?_)
              refine WL.bin (d := 73) (v := .string ⟨((List.flatten (List.take i.toNat (chunks l4))) ++ r99).toArray⟩) (cat_run (by (try simp only [List.length_append, List.length_cons, List.length_nil]); omega)) (k := ?_)
              refine WL.op (d := 5) (.string ⟨((List.flatten (List.take i.toNat (chunks l4))) ++ r99).toArray⟩) (k := ?_)
              refine WL.nil ?_
              refine WX.blockN ?_
              refine WX.seqN ?_
              refine WC.region ?_
              refine WL.op (d := 21) (.int .i64 i) (k := ?_)
              refine WL.opE (d := 22) (.int .i64 (IntKind.i64.wrap (i + 1))) (v := .int .i64 (i + 1)) (congrArg (Value.int .i64) (IntWalk.i64_in _ (by omega))) (k := ?_)
              refine WL.op (d := 6) (.int .i64 (i + 1)) (k := ?_)
              refine WL.nil ?_
              refine WX.rw (t := 5) (v := .string ⟨(List.flatten (List.take (i + 1).toNat (chunks l4))).toArray⟩) (congrArg (fun l : List UInt8 => Value.string ⟨l.toArray⟩) (flat_succ i0 hr100)) (k := ?_)
              refine WX.round (i + 1) (by show ((chunks l4).length - (i + 1)).toNat < ((chunks l4).length - i).toNat; omega) ⟨(by kernel_rfl), (by kernel_rfl), (by kernel_rfl), (by kernel_rfl), (by kernel_rfl), (by kernel_rfl), (by kernel_rfl), (by kernel_rfl), (by kernel_rfl), (by kernel_rfl), (by kernel_rfl), (by kernel_rfl), (by kernel_rfl), trivial⟩ ⟨K, hb17, ol18, (by omega), (by omega)⟩
          · have ph80 := of_decide_eq_false h80
            refine WL.rw (t := 47) (v := .bool false) (congrArg Value.bool h80) (k := ?_)
            refine WL.skip (d := 48) (k := ?_)
            refine WL.skip (d := 49) (k := ?_)
            refine WL.skip (d := 50) (k := ?_)
            refine WL.skip (d := 51) (k := ?_)
            refine WL.skip (d := 52) (k := ?_)
            refine WL.op (d := 53) (.bool false) (k := ?_)
            refine WL.op (d := 54) (.bool false) (k := ?_)
            refine WL.nil ?_
            refine WX.seqN ?_
            refine WC.condF (k := ?_)
            refine WC.skip ?_
            refine WX.seqN ?_
            refine WC.seq ?_
            refine WC.region ?_
            refine WL.op (d := 56) (.slice A9 ((chunks l4).length) c10) (k := ?_)
            refine WL.op (d := 57) (.int .i64 i) (k := ?_)
            obtain ⟨b103, o104, r105, hr106, hA107, he108⟩ := SlAt.at (hb17.sl ekStr) (i := i) (by omega) (by omega)
            refine WL.rw (t := 56) (v := .slice (some ⟨b103, o104, none⟩) ((chunks l4).length) c10) (congrArg (fun a => Value.slice a ((chunks l4).length) c10) hA107) (k := ?_)
            have cm_r105 := chunks_mem (List.mem_of_getElem? hr106)
            have cf_r105 := Decidable.not_or_of_imp (chunks_full hr106)
            have cs_r105 := fun h => chunks_some hr106 (Or.inl h)
            refine WL.idx (T := 44) (E := 9) (m := 1) (b := b103) (o := o104) (len := (chunks l4).length) (cap := c10) (i := i) (kk := .i64) (d := 58) (by omega) (by omega) (k := ?_)
            refine WL.rw (t := 56) (v := .slice A9 ((chunks l4).length) c10) (congrArg (fun a => Value.slice a ((chunks l4).length) c10) (Eq.symm hA107)) (k := ?_)
            refine WL.load (v := .string ⟨(r105).toArray⟩) (he108.ld0 (T := 9)) (k := ?_)
            refine WL.op (d := 60) (.int .i64 i) (k := ?_)
            refine WL.opE (d := 61) (.int .u64 (IntKind.u64.wrap i)) (v := .int .u64 ((i.toNat : Nat) : Int)) (congrArg (Value.int .u64) (by rw [IntWalk.u64_in _ (by omega)]; omega)) (k := ?_)
            refine WL.op (d := 62) (.agg #[.string ⟨(r105).toArray⟩, .int .u64 1, .int .u64 ((i.toNat : Nat) : Int)]) (k := ?_)
            refine WL.callG (d := 63) (f := 23) (args := #[.agg #[.string ⟨(r105).toArray⟩, .int .u64 1, .int .u64 ((i.toNat : Nat) : Int)]]) (fMake_ok (p := r105) (e := 1) (n := i.toNat) (by first | omega | (simp; done) | (simp; omega)) (by show List.length r105 ≤ _; first | omega | (simp; done) | (simp; omega)) (by omega) (by omega) w16) (k := fun e_ w110 h_ => ⟨.tuple #[.string ⟨(makeS r105 1 i.toNat).toArray⟩, .int .i64 0], h_.1, ?_⟩)
            have k111 := h_.2; clear h_
            replace hb17 := hb17.adds k111
            replace he78 := he78.adds k111
            replace he108 := he108.adds k111
            replace K := K.trans (k111.any _)
            have ml109 := makeS_len (p := r105) (by first | omega | (simp; done) | (simp; omega)) 1 i.toNat
            refine WL.op (d := 55) (.tuple #[.string ⟨(makeS r105 1 i.toNat).toArray⟩, .int .i64 0]) (k := ?_)
            refine WL.op (d := 64) (.string ⟨(makeS r105 1 i.toNat).toArray⟩) (k := ?_)
            refine WL.op (d := 65) (.int .i64 0) (k := ?_)
            refine WL.op (d := 7) (.string ⟨(makeS r105 1 i.toNat).toArray⟩) (k := ?_)
            refine WL.op (d := 8) (.int .i64 0) (k := ?_)
            refine WL.nil ?_
            refine WX.seqN ?_
            refine WC.seq ?_
            refine WC.seq ?_
            refine WC.region ?_
            refine WL.op (d := 66) (.int .i64 0) (k := ?_)
            refine WL.op (d := 67) (.bool false) (k := ?_)
            refine WL.nil ?_
            refine WX.seqN ?_
            refine WC.condF (k := ?_)
            refine WC.skip ?_
            refine WX.seqN ?_
            refine WC.region ?_
            refine WL.op (d := 68) (.string ⟨(List.flatten (List.take i.toNat (chunks l4))).toArray⟩) (k := ?_)
            refine WL.op (d := 69) (.slice A9 ((chunks l4).length) c10) (k := ?_)
            refine WL.op (d := 70) (.int .i64 i) (k := ?_)
            obtain ⟨b112, o113, r114, hr115, hA116, he117⟩ := SlAt.at (hb17.sl ekStr) (i := i) (by omega) (by omega)
            refine WL.rw (t := 69) (v := .slice (some ⟨b112, o113, none⟩) ((chunks l4).length) c10) (congrArg (fun a => Value.slice a ((chunks l4).length) c10) hA116) (k := ?_)
            have cm_r114 := chunks_mem (List.mem_of_getElem? hr115)
            have cf_r114 := Decidable.not_or_of_imp (chunks_full hr115)
            have cs_r114 := fun h => chunks_some hr115 (Or.inl h)
            refine WL.idx (T := 44) (E := 9) (m := 1) (b := b112) (o := o113) (len := (chunks l4).length) (cap := c10) (i := i) (kk := .i64) (d := 71) (by omega) (by omega) (k := ?_)
            refine WL.rw (t := 69) (v := .slice A9 ((chunks l4).length) c10) (congrArg (fun a => Value.slice a ((chunks l4).length) c10) (Eq.symm hA116)) (k := ?_)
            refine WL.load (v := .string ⟨(r114).toArray⟩) (he117.ld0 (T := 9)) (k := ?_)
            refine WL.bin (d := 73) (v := .string ⟨((List.flatten (List.take i.toNat (chunks l4))) ++ r114).toArray⟩) (cat_run (by (try simp only [List.length_append, List.length_cons, List.length_nil]); omega)) (k := ?_)
            refine WL.op (d := 5) (.string ⟨((List.flatten (List.take i.toNat (chunks l4))) ++ r114).toArray⟩) (k := ?_)
            refine WL.nil ?_
            refine WX.blockN ?_
            refine WX.seqN ?_
            refine WC.region ?_
            refine WL.op (d := 21) (.int .i64 i) (k := ?_)
            refine WL.opE (d := 22) (.int .i64 (IntKind.i64.wrap (i + 1))) (v := .int .i64 (i + 1)) (congrArg (Value.int .i64) (IntWalk.i64_in _ (by omega))) (k := ?_)
            refine WL.op (d := 6) (.int .i64 (i + 1)) (k := ?_)
            refine WL.nil ?_
            refine WX.rw (t := 5) (v := .string ⟨(List.flatten (List.take (i + 1).toNat (chunks l4))).toArray⟩) (congrArg (fun l : List UInt8 => Value.string ⟨l.toArray⟩) (flat_succ i0 hr115)) (k := ?_)
            refine WX.round (i + 1) (by show ((chunks l4).length - (i + 1)).toNat < ((chunks l4).length - i).toNat; omega) ⟨(by kernel_rfl), (by kernel_rfl), (by kernel_rfl), (by kernel_rfl), (by kernel_rfl), (by kernel_rfl), (by kernel_rfl), (by kernel_rfl), (by kernel_rfl), (by kernel_rfl), (by kernel_rfl), (by kernel_rfl), (by kernel_rfl), trivial⟩ ⟨K, hb17, ol18, (by omega), (by omega)⟩
    · have ph19 := of_decide_eq_false h19
      refine WC.exit ?_
      refine WX.seqE ?_
      refine WX.seqE ?_
      refine WX.blockE ?_
      refine WX.seqN ?_
      refine WC.seq ?_
      refine WC.region ?_
      refine WL.op (d := 74) (.bool true) (k := ?_)
      refine WL.op (d := 75) (.bool true) (k := ?_)
      refine WL.op (d := 76) (.string ⟨(List.flatten (List.take i.toNat (chunks l4))).toArray⟩) (k := ?_)
      refine WL.op (d := 77) (.string ⟨(l4).toArray⟩) (k := ?_)
      refine WL.opE (d := 78) (.bool (ByteArray.toList ⟨(List.flatten (List.take i.toNat (chunks l4))).toArray⟩ == ByteArray.toList ⟨(l4).toArray⟩)) (v := .bool (decide (List.flatten (List.take i.toNat (chunks l4)) = l4))) (str_eql _ _) (k := ?_)
      refine WL.op (d := 79) (.bool (decide (List.flatten (List.take i.toNat (chunks l4)) = l4))) (k := ?_)
      refine WL.op (d := 2) (.bool (decide (List.flatten (List.take i.toNat (chunks l4)) = l4))) (k := ?_)
      refine WL.nil ?_
      refine WX.seqN ?_
      refine WC.ret ?_
      refine WX.ret (rs := [.tmp 2]) [.bool (decide (List.flatten (List.take i.toNat (chunks l4)) = l4))] (.bool (decide (List.flatten (List.take i.toNat (chunks l4)) = l4))) ⟨(by kernel_rfl), trivial⟩ (k := ?_)
      have e_ := take_endI (xs := chunks l4) (i := i) (by omega)
      exact ⟨ret_bool (decide_eq_true (by rw [e_]; exact chunks_flat)), K⟩

end Go.Proofs.YtdoenmokahbeaaaDoor
