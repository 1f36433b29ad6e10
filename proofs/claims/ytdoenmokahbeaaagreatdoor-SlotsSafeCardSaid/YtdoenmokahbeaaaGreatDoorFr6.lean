/- Frames read. -/
import Derived.Test.YtdoenmokahbeaaaGreatDoorFr5
namespace Go.Proofs.YtdoenmokahbeaaaGreatDoor
open Go.RowKit
set_option linter.unusedVariables false
set_option linter.unusedSimpArgs false

theorem head_getD (l : List UInt8) : List.getD l (0 : Int).toNat 0 = l.headD 0 := by cases l <;> rfl
theorem pay_cut (l : List UInt8) : List.drop 5 (List.take (5 + ((List.getD l (0 : Int).toNat 0).toNat : Int)).toNat l) = payS l := by
  rw [head_getD, payS, List.take_drop, show (5 + ((l.headD 0).toNat : Int)).toNat = 5 + (l.headD 0).toNat by omega]
theorem rest_eq (l : List UInt8) : List.drop (5 + ((List.getD l (0 : Int).toNat 0).toNat : Int)).toNat (List.take 48 l) = List.drop (5 + (l.headD 0).toNat) (List.take 48 l) := by rw [head_getD]; congr 1
theorem payS_len (l : List UInt8) : ((payS l).length : Int) ≤ ((List.getD l (0 : Int).toNat 0).toNat : Int) := by
  rw [head_getD, payS, List.length_take]; omega
theorem no_len {l : List UInt8} (h : ¬ l.length = 64) : ¬ isCell l := fun k => h k.1
theorem no_head {l : List UInt8} (h : ((List.getD l (0 : Int).toNat 0).toNat : Int) > 43) : ¬ isCell l := fun k => by rw [head_getD] at h; have := k.2.1; omega
section
variable {l r : List UInt8} (h64 : l.length = 64) (h43 : ¬ ((List.getD l (0 : Int).toNat 0).toNat : Int) > 43)
include h64 h43
theorem iff_ : isCell l ↔ crc (payS l ++ List.drop 48 l) = beval (List.take 4 (List.drop 1 l)) ∧ ∀ x ∈ List.drop (5 + ((List.getD l (0 : Int).toNat 0).toNat : Int)).toNat (List.take 48 l), x = 0 := by
  rw [head_getD] at h43
  rw [cell_iff h64 (by omega), head_getD, show (5 + ((l.headD 0).toNat : Int)).toNat = 5 + (l.headD 0).toNat by omega, zeros_iff (n := 43 - (l.headD 0).toNat) (by rw [List.length_drop, List.length_take]; omega)]
theorem no_sum (h : ¬ ((crc (payS l ++ List.drop 48 l) : Nat) : Int) = ((beval (List.take 4 (List.drop 1 l)) : Nat) : Int)) : ¬ isCell l := fun k => h (by rw [((iff_ h64 h43).1 k).1])
theorem no_zero (hr : r = [] ↔ ∀ x ∈ List.drop (5 + ((List.getD l (0 : Int).toNat 0).toNat : Int)).toNat (List.take 48 l), x = 0) (h : ¬ r = []) : ¬ isCell l := fun k => h (hr.2 ((iff_ h64 h43).1 k).2)
theorem yes_ (h : ((crc (payS l ++ List.drop 48 l) : Nat) : Int) = ((beval (List.take 4 (List.drop 1 l)) : Nat) : Int)) (hr : r = [] ↔ ∀ x ∈ List.drop (5 + ((List.getD l (0 : Int).toNat 0).toNat : Int)).toNat (List.take 48 l), x = 0) (h0 : r = []) : isCell l := (iff_ h64 h43).2 ⟨by omega, hr.1 h0⟩
theorem mk_iff : isCell l ↔ makeS (payS l) (tgE l) (tgN l) = l := by
  rw [head_getD] at h43
  unfold isCell tgE tgN
  rw [if_pos h64, if_pos h64]
  exact ⟨fun k => k.2.2, fun k => ⟨h64, by omega, k⟩⟩
end
theorem rd_no {l : List UInt8} (h : ¬ isCell l) : rdP l = [] ∧ rdE l = 0 ∧ rdN l = 0 := ⟨if_neg h, if_neg h, if_neg h⟩
theorem rd_yes {l : List UInt8} (h : isCell l) : rdP l = payS l ∧ rdE l = tgE l ∧ rdN l = tgN l := by
  refine ⟨if_pos h, ?_, ?_⟩
  · rw [rdE, if_pos h, tgE, if_pos h.1]
  · rw [rdN, if_pos h, tgN, if_pos h.1]
section
variable {l : List UInt8} {e n : Nat}
theorem wh_no (h : ¬ isCell l) : false = decide (isCell l ∧ rdE l = e ∧ rdN l = n) := (decide_eq_false fun k => h k.1).symm
theorem wh_no2 (h : ¬ ((rdE l : Nat) : Int) = (e : Int)) : false = decide (isCell l ∧ rdE l = e ∧ rdN l = n) := (decide_eq_false fun k => h (by rw [k.2.1])).symm
theorem wh_fin (h : isCell l) (h2 : ((rdE l : Nat) : Int) = (e : Int)) : (((rdN l : Nat) : Int) == (n : Int)) = decide (isCell l ∧ rdE l = e ∧ rdN l = n) := by
  rw [Bool.eq_iff_iff, beq_iff_eq, decide_eq_true_eq]
  exact ⟨fun k => ⟨h, by omega, by omega⟩, fun k => by rw [k.2.2]⟩
end

theorem beval_lt32 (l : List UInt8) : beval (List.take 4 l) < 4294967296 := by
  have h1 := beval_lt (List.take 4 l)
  have h2 : 256 ^ (List.take 4 l).length ≤ 256 ^ 4 := Nat.pow_le_pow_right (by decide) (by rw [List.length_take]; omega)
  have h3 : (256 : Nat) ^ 4 = 4294967296 := by decide
  omega

set_option maxRecDepth 100000 in
set_option maxHeartbeats 4000000 in
theorem fRead_c {l : List UInt8} (hm : l.length ≤ 1000000) (w : World) : Calls Tryz.prog 55 #[.string ⟨l.toArray⟩] w fun e_ w' => e_ = .returned (.tuple #[.agg #[.string ⟨(rdP l).toArray⟩, .int .u64 (rdE l : Int), .int .u64 (rdN l : Int)], .bool (decide (isCell l))]) ∧ Adds w w' := by
  have K : Keeps (fun _ => False) w w := Keeps.refl _ w
  refine Calls.start Tryz.func55 rfl (by kernel_rfl) ?_
  refine WC.seq ?_
  refine WC.region ?_
  refine WL.new (d := 2) (T := 96) #[.string ⟨#[]⟩, .int .u64 0, .int .u64 0] (k := fun b1 w2 g3 hb4 k5 => ?_)
  have z6 := Nat.le_trans K.size g3
  replace K := K.trans (k5.any _)
  refine WL.op (d := 3) (.bool false) (k := ?_)
  refine WL.nil ?_
  refine WX.seqN ?_
  refine WC.seq ?_
  refine WC.region ?_
  refine WL.op (d := 12) (.string ⟨(l).toArray⟩) (k := ?_)
  refine WL.callG (d := 13) (f := 62) (args := #[.string ⟨(l).toArray⟩]) (fTag_c (l := l) (by show List.length l ≤ _; first | omega | (simp; done) | (simp; omega)) w2) (k := fun e_ w9 h_ => ⟨.tuple #[.int .u64 ((tgE l : Nat) : Int), .int .u64 ((tgN l : Nat) : Int), .bool (decide (List.length l = 64))], h_.1, ?_⟩)
  have k10 := h_.2; clear h_
  replace hb4 := k10.heap hb4 id
  replace K := K.trans (k10.any _)
  have te7 := tgE_lt l
  have te8 := tgN_lt l
  refine WL.op (d := 11) (.tuple #[.int .u64 ((tgE l : Nat) : Int), .int .u64 ((tgN l : Nat) : Int), .bool (decide (List.length l = 64))]) (k := ?_)
  refine WL.op (d := 14) (.int .u64 ((tgE l : Nat) : Int)) (k := ?_)
  refine WL.op (d := 15) (.int .u64 ((tgN l : Nat) : Int)) (k := ?_)
  refine WL.op (d := 16) (.bool (decide (List.length l = 64))) (k := ?_)
  refine WL.op (d := 4) (.int .u64 ((tgE l : Nat) : Int)) (k := ?_)
  refine WL.op (d := 5) (.int .u64 ((tgN l : Nat) : Int)) (k := ?_)
  refine WL.op (d := 6) (.bool (decide (List.length l = 64))) (k := ?_)
  refine WL.nil ?_
  refine WX.seqN ?_
  refine WC.seq ?_
  refine WC.seq ?_
  refine WC.region ?_
  refine WL.op (d := 17) (.bool (decide (List.length l = 64))) (k := ?_)
  refine WL.op (d := 18) (.bool (!(decide (List.length l = 64)))) (k := ?_)
  refine WL.op (d := 19) (.bool (!(decide (List.length l = 64)))) (k := ?_)
  refine bsplit (!(decide (List.length l = 64))) (fun h11 => ?_) (fun h11 => ?_)
  · have h12 : (decide (List.length l = 64)) = false := Bool.not_inj (y := false) h11
    have ph12 := of_decide_eq_false h12
    refine WL.rw (t := 19) (v := .bool true) (congrArg Value.bool h11) (k := ?_)
    refine WL.skip (d := 20) (k := ?_)
    refine WL.skip (d := 21) (k := ?_)
    refine WL.skip (d := 22) (k := ?_)
    refine WL.op (d := 23) (.bool true) (k := ?_)
    refine WL.nil ?_
    refine WX.seqN ?_
    refine WC.condT (k := ?_)
    refine WC.seq ?_
    refine WC.region ?_
    refine WL.op (d := 24) (.agg #[.string ⟨#[]⟩, .int .u64 0, .int .u64 0]) (k := ?_)
    refine WL.store (v := .agg #[.string ⟨#[]⟩, .int .u64 0, .int .u64 0]) (i := 0) (cs' := #[.string ⟨#[]⟩, .int .u64 0, .int .u64 0]) hb4 (k := fun w13 hb14 k15 => ?_)
    replace K := K.trans' k15 (fun i hi e => absurd (e ▸ hi) (Nat.not_lt.2 z6))
    clear hb4
    refine WL.op (d := 3) (.bool false) (k := ?_)
    refine WL.nil ?_
    refine WX.seqN ?_
    refine WC.ret ?_
    refine WX.seqR ?_
    refine WX.ret (rs := [.cell 2 96, .tmp 3]) [.agg #[.string ⟨#[]⟩, .int .u64 0, .int .u64 0], .bool false] (.tuple #[.agg #[.string ⟨#[]⟩, .int .u64 0, .int .u64 0], .bool false]) ⟨⟨_, (by kernel_rfl), ldN (T := 96) (i := 0) (m := 3) (l := [.string ⟨#[]⟩, .int .u64 0, .int .u64 0]) hb14⟩, (by kernel_rfl), trivial⟩ (k := ?_)
    obtain ⟨e1_, e2_, e3_⟩ := rd_no (l := l) (no_len (fun h => ph12 (by omega)))
    exact ⟨by rw [e1_, e2_, e3_, decide_eq_false (no_len (fun h => ph12 (by omega)))]; rfl, K⟩
  · have h16 : (decide (List.length l = 64)) = true := Bool.not_inj (y := true) h11
    have ph16 := of_decide_eq_true h16
    refine WL.rw (t := 19) (v := .bool false) (congrArg Value.bool h11) (k := ?_)
    refine WL.op (d := 20) (.string ⟨(l).toArray⟩) (k := ?_)
    refine WL.strAt (T := 9) (l := l) (i := 0) (kk := .i64) (d := 21) (by omega) (by first | omega | (simp; omega)) (by kernel_rfl) (by kernel_rfl) (by kernel_rfl) (by kernel_rfl) (by kernel_rfl) ?_
    have ub17 := u8_lt (List.getD l (0 : Int).toNat 0)
    refine WL.op (d := 22) (.bool (decide (((List.getD l (0 : Int).toNat 0).toNat : Int) > 43))) (k := ?_)
    refine WL.op (d := 23) (.bool (decide (((List.getD l (0 : Int).toNat 0).toNat : Int) > 43))) (k := ?_)
    refine WL.nil ?_
    refine WX.seqN ?_
    refine WC.cond (b := decide (((List.getD l (0 : Int).toNat 0).toNat : Int) > 43)) (ht := fun h18 => ?_) (hf := fun h18 => ?_)
    · have ph18 := of_decide_eq_true h18
      refine WC.seq ?_
      refine WC.region ?_
      refine WL.op (d := 24) (.agg #[.string ⟨#[]⟩, .int .u64 0, .int .u64 0]) (k := ?_)
      refine WL.store (v := .agg #[.string ⟨#[]⟩, .int .u64 0, .int .u64 0]) (i := 0) (cs' := #[.string ⟨#[]⟩, .int .u64 0, .int .u64 0]) hb4 (k := fun w19 hb20 k21 => ?_)
      replace K := K.trans' k21 (fun i hi e => absurd (e ▸ hi) (Nat.not_lt.2 z6))
      clear hb4
      refine WL.op (d := 3) (.bool false) (k := ?_)
      refine WL.nil ?_
      refine WX.seqN ?_
      refine WC.ret ?_
      refine WX.seqR ?_
      refine WX.ret (rs := [.cell 2 96, .tmp 3]) [.agg #[.string ⟨#[]⟩, .int .u64 0, .int .u64 0], .bool false] (.tuple #[.agg #[.string ⟨#[]⟩, .int .u64 0, .int .u64 0], .bool false]) ⟨⟨_, (by kernel_rfl), ldN (T := 96) (i := 0) (m := 3) (l := [.string ⟨#[]⟩, .int .u64 0, .int .u64 0]) hb20⟩, (by kernel_rfl), trivial⟩ (k := ?_)
      obtain ⟨e1_, e2_, e3_⟩ := rd_no (l := l) (no_head ph18)
      exact ⟨by rw [e1_, e2_, e3_, decide_eq_false (no_head ph18)]; rfl, K⟩
    · have ph18 := of_decide_eq_false h18
      refine WC.skip ?_
      refine WX.seqN ?_
      refine WC.seq ?_
      refine WC.region ?_
      refine WL.op (d := 25) (.string ⟨(l).toArray⟩) (k := ?_)
      refine WL.strAt (T := 9) (l := l) (i := 0) (kk := .i64) (d := 26) (by omega) (by first | omega | (simp; omega)) (by kernel_rfl) (by kernel_rfl) (by kernel_rfl) (by kernel_rfl) (by kernel_rfl) ?_
      have ub22 := u8_lt (List.getD l (0 : Int).toNat 0)
      refine WL.opE (d := 27) (.int .i64 (IntKind.i64.wrap ((List.getD l (0 : Int).toNat 0).toNat : Int))) (v := .int .i64 ((List.getD l (0 : Int).toNat 0).toNat : Int)) (congrArg (Value.int .i64) (IntWalk.i64_in _ (by omega))) (k := ?_)
      refine WL.opE (d := 28) (.int .i64 (IntKind.i64.wrap (5 + ((List.getD l (0 : Int).toNat 0).toNat : Int)))) (v := .int .i64 (5 + ((List.getD l (0 : Int).toNat 0).toNat : Int))) (congrArg (Value.int .i64) (IntWalk.i64_in _ (by omega))) (k := ?_)
      refine WL.op (d := 7) (.int .i64 (5 + ((List.getD l (0 : Int).toNat 0).toNat : Int))) (k := ?_)
      refine WL.nil ?_
      refine WX.seqN ?_
      refine WC.seq ?_
      refine WC.region ?_
      refine WL.op (d := 29) (.string ⟨(l).toArray⟩) (k := ?_)
      refine WL.op (d := 30) (.int .i64 (5 + ((List.getD l (0 : Int).toNat 0).toNat : Int))) (k := ?_)
      refine WL.cut (d := 31) (vx := .string ⟨(l).toArray⟩) (lo' := (some (.int .i64 5))) (hi' := (some (.int .i64 (5 + ((List.getD l (0 : Int).toNat 0).toNat : Int))))) (mx' := none) (v := .string ⟨(List.drop 5 (List.take ((5 + ((List.getD l (0 : Int).toNat 0).toNat : Int)).toNat) l)).toArray⟩) (run_cut (P := Tryz.prog) (w := w9) (lo := (some (.int .i64 5))) (hi := (some (.int .i64 (5 + ((List.getD l (0 : Int).toNat 0).toNat : Int))))) (T := 9) (a := 5) (b := (5 + ((List.getD l (0 : Int).toNat 0).toNat : Int)).toNat) (l := l) (by kernel_rfl) (.inr ⟨_, _, rfl, by omega⟩) (.inr ⟨_, _, rfl, by omega⟩) (by first | omega | (simp; omega)) (by first | omega | (simp; omega))) (k := ?_)
      have pl23 := payS_len l
      refine WL.rw (t := 31) (v := .string ⟨(payS l).toArray⟩) (congrArg (fun l : List UInt8 => Value.string ⟨l.toArray⟩) (pay_cut l)) (k := ?_)
      refine WL.op (d := 32) (.int .u64 ((tgE l : Nat) : Int)) (k := ?_)
      refine WL.op (d := 33) (.int .u64 ((tgN l : Nat) : Int)) (k := ?_)
      refine WL.op (d := 34) (.agg #[.string ⟨(payS l).toArray⟩, .int .u64 ((tgE l : Nat) : Int), .int .u64 ((tgN l : Nat) : Int)]) (k := ?_)
      refine WL.new (d := 8) (T := 96) #[.string ⟨#[]⟩, .int .u64 0, .int .u64 0] (k := fun b24 w25 g26 hb27 k28 => ?_)
      have z29 := Nat.le_trans K.size g26
      have n30 : b1 ≠ b24 := Nat.ne_of_lt (Nat.lt_of_lt_of_le (lt_of_heap hb4) g26)
      replace hb4 := k28.heap hb4 id
      replace K := K.trans (k28.any _)
      refine WL.store (v := .agg #[.string ⟨(payS l).toArray⟩, .int .u64 ((tgE l : Nat) : Int), .int .u64 ((tgN l : Nat) : Int)]) (i := 0) (cs' := #[.string ⟨(payS l).toArray⟩, .int .u64 ((tgE l : Nat) : Int), .int .u64 ((tgN l : Nat) : Int)]) hb27 (k := fun w31 hb32 k33 => ?_)
      replace hb4 := k33.heap hb4 n30
      replace K := K.trans' k33 (fun i hi e => absurd (e ▸ hi) (Nat.not_lt.2 z29))
      clear hb27
      refine WL.nil ?_
      refine WX.seqN ?_
      refine WC.seq ?_
      refine WC.region ?_
      refine WL.op (d := 36) (.string ⟨(l).toArray⟩) (k := ?_)
      refine WL.cut (d := 37) (vx := .string ⟨(l).toArray⟩) (lo' := (some (.int .i64 1))) (hi' := none) (mx' := none) (v := .string ⟨(List.drop 1 l).toArray⟩) ((by have h_ := run_cut (P := Tryz.prog) (w := w31) (lo := (some (.int .i64 1))) (hi := none) (T := 9) (a := 1) (b := l.length) (l := l) (by kernel_rfl) (.inr ⟨_, _, rfl, by omega⟩) (.inl ⟨rfl, rfl⟩) (by first | omega | (simp; omega)) (by first | omega | (simp; omega)); rw [List.take_length] at h_; exact h_)) (k := ?_)
      refine WL.callG (d := 38) (f := 71) (args := #[.string ⟨(List.drop 1 l).toArray⟩]) (cRead_c (l := List.drop 1 l) (by simp; omega) (by simp; omega) w31) (k := fun e_ w35 h_ => ⟨.tuple #[.int .u32 ((beval (List.take 4 (List.drop 1 l)) : Nat) : Int), .bool true], h_.1, ?_⟩)
      have k36 := h_.2; clear h_
      replace hb4 := k36.heap hb4 id
      replace hb32 := k36.heap hb32 id
      replace K := K.trans (k36.any _)
      have bl34 := beval_lt32 (List.drop 1 l)
      refine WL.op (d := 35) (.tuple #[.int .u32 ((beval (List.take 4 (List.drop 1 l)) : Nat) : Int), .bool true]) (k := ?_)
      refine WL.op (d := 39) (.int .u32 ((beval (List.take 4 (List.drop 1 l)) : Nat) : Int)) (k := ?_)
      refine WL.op (d := 40) (.bool true) (k := ?_)
      refine WL.op (d := 9) (.int .u32 ((beval (List.take 4 (List.drop 1 l)) : Nat) : Int)) (k := ?_)
      refine WL.op (d := 10) (.bool true) (k := ?_)
      refine WL.nil ?_
      refine WX.seqN ?_
      refine WC.seq ?_
      refine WC.seq ?_
      refine WC.mixed (fun _ => False) 16 (k := fun w37 k38 => ?_)
      replace hb4 := k38.heap hb4 id
      replace hb32 := k38.heap hb32 id
      replace K := K.trans (k38.any _)
      have KC := Keeps.refl (fun _ => False) w37
      have bh39 := hb4
      have bh40 := hb32
      have Kb := K
      refine WA.quiet2 1 (d := 42) (.pointer (some ⟨b24, 0, none⟩)) KC (hi := rfl) (k := ?_)
      refine WA.quietR2 2 (d := 43) (.string ⟨(payS l).toArray⟩) KC (exec_load (fun w_ k_ => ld1 (T := 9) (i := 0) (k_.heap bh40 id))) (hi := rfl) (k := ?_)
      refine WA.quiet2 3 (d := 44) (.string ⟨(l).toArray⟩) KC (hi := rfl) (k := ?_)
      refine WA.quietR2 4 (d := 45) (.string ⟨(List.drop 48 l).toArray⟩) KC (exec_cut (vx := .string ⟨(l).toArray⟩) (lo' := (some (.int .i64 48))) (hi' := none) (mx' := none) (fun w_ => (by have h_ := run_cut (P := Tryz.prog) (w := w_) (lo := (some (.int .i64 48))) (hi := none) (T := 9) (a := 48) (b := l.length) (l := l) (by kernel_rfl) (.inr ⟨_, _, rfl, by omega⟩) (.inl ⟨rfl, rfl⟩) (by first | omega | (simp; omega)) (by first | omega | (simp; omega)); rw [List.take_length] at h_; exact h_))) (hi := rfl) (k := ?_)
      refine WA.quietR2 5 (d := 46) (.string ⟨((payS l) ++ (List.drop 48 l)).toArray⟩) KC (exec_bin (fun _ => cat_run (by (try simp only [List.length_append, List.length_drop]); omega))) (hi := rfl) (k := ?_)
      refine WA.quiet2 6 (d := 47) (.int .u32 ((beval (List.take 4 (List.drop 1 l)) : Nat) : Int)) KC (hi := rfl) (k := ?_)
      refine WA.step 0 (hi := rfl) (k := ?_)
      refine WL.callG (d := 41) (f := 65) (args := #[]) (cNew_c w37) (k := fun e_ w41 h_ => ?_)
      obtain ⟨b42, g43, rfl, ht44, k45⟩ := h_
      refine ⟨_, rfl, ?_⟩
      have z46 := Nat.le_trans K.size g43
      have zc47 := Nat.le_trans KC.size g43
      have n48 : b1 ≠ b42 := Nat.ne_of_lt (Nat.lt_of_lt_of_le (lt_of_heap hb4) g43)
      have n49 : b24 ≠ b42 := Nat.ne_of_lt (Nat.lt_of_lt_of_le (lt_of_heap hb32) g43)
      replace hb4 := k45.heap hb4 id
      replace hb32 := k45.heap hb32 id
      replace K := K.trans (k45.any _)
      replace KC := KC.trans (k45.any _)
      refine WL.nil ?_
      refine WX.nxt KC ?_
      refine WA.step 7 (hi := rfl) (k := ?_)
      refine WL.callG (d := 48) (f := 72) (args := #[.pointer (some ⟨b42, 0, none⟩), .string ⟨((payS l) ++ (List.drop 48 l)).toArray⟩, .int .u32 ((beval (List.take 4 (List.drop 1 l)) : Nat) : Int)]) (cRight_c (l := (payS l) ++ (List.drop 48 l)) ht44 (by show List.length ((payS l) ++ (List.drop 48 l)) ≤ _; first | omega | (simp; done) | (simp; omega))) (k := fun e_ w50 h_ => ?_)
      obtain ⟨rfl, k51⟩ := h_
      refine ⟨_, rfl, ?_⟩
      replace hb4 := k51.heap hb4 n48
      replace hb32 := k51.heap hb32 n49
      replace K := K.trans' k51 (fun i hi e => absurd (e ▸ hi) (Nat.not_lt.2 z46))
      replace KC := KC.trans' k51 (fun i hi e => absurd (e ▸ hi) (Nat.not_lt.2 zc47))
      clear ht44
      have cl52 := crc_lt ((payS l) ++ (List.drop 48 l))
      refine WL.nil ?_
      refine WX.nxt KC ?_
      refine WA.quiet2 8 (d := 49) (.bool (!(((crc ((payS l) ++ (List.drop 48 l)) : Nat) : Int) == ((beval (List.take 4 (List.drop 1 l)) : Nat) : Int)))) KC (hi := rfl) (k := ?_)
      refine WA.quiet2 9 (d := 50) (.bool (!(((crc ((payS l) ++ (List.drop 48 l)) : Nat) : Int) == ((beval (List.take 4 (List.drop 1 l)) : Nat) : Int)))) KC (hi := rfl) (k := ?_)
      refine bsplit (!(((crc ((payS l) ++ (List.drop 48 l)) : Nat) : Int) == ((beval (List.take 4 (List.drop 1 l)) : Nat) : Int))) (fun h53 => ?_) (fun h53 => ?_)
      · have h54 : (((crc ((payS l) ++ (List.drop 48 l)) : Nat) : Int) == ((beval (List.take 4 (List.drop 1 l)) : Nat) : Int)) = false := Bool.not_inj (y := false) h53
        have ph54 := ne_of_beq_false h54
        refine WA.rw (t := 50) (v := .bool true) (congrArg Value.bool h53) (k := ?_)
        refine WA.quietS2 10 (d := 51) KC (hi := rfl) (k := ?_)
        refine WA.quietS2 11 (d := 52) KC (hi := rfl) (k := ?_)
        refine WA.quietS2 12 (d := 53) KC (hi := rfl) (k := ?_)
        refine WA.step 13 (hi := rfl) (k := ?_)
        refine WL.skip (d := 54) (k := ?_)
        refine WL.nil ?_
        refine WX.nxt KC ?_
        refine WA.quietS2 14 (d := 55) KC (hi := rfl) (k := ?_)
        refine WA.quiet2 15 (d := 56) (.bool true) KC (hi := rfl) (k := ?_)
        refine WA.done (k := ?_)
        clear KC
        refine WX.seqN ?_
        refine WC.condT (k := ?_)
        refine WC.seq ?_
        refine WC.region ?_
        refine WL.op (d := 57) (.agg #[.string ⟨#[]⟩, .int .u64 0, .int .u64 0]) (k := ?_)
        refine WL.store (v := .agg #[.string ⟨#[]⟩, .int .u64 0, .int .u64 0]) (i := 0) (cs' := #[.string ⟨#[]⟩, .int .u64 0, .int .u64 0]) hb4 (k := fun w55 hb56 k57 => ?_)
        replace hb32 := k57.heap hb32 (Ne.symm n30)
        replace K := K.trans' k57 (fun i hi e => absurd (e ▸ hi) (Nat.not_lt.2 z6))
        clear hb4
        refine WL.op (d := 3) (.bool false) (k := ?_)
        refine WL.nil ?_
        refine WX.seqN ?_
        refine WC.ret ?_
        refine WX.seqR ?_
        refine WX.ret (rs := [.cell 2 96, .tmp 3]) [.agg #[.string ⟨#[]⟩, .int .u64 0, .int .u64 0], .bool false] (.tuple #[.agg #[.string ⟨#[]⟩, .int .u64 0, .int .u64 0], .bool false]) ⟨⟨_, (by kernel_rfl), ldN (T := 96) (i := 0) (m := 3) (l := [.string ⟨#[]⟩, .int .u64 0, .int .u64 0]) hb56⟩, (by kernel_rfl), trivial⟩ (k := ?_)
        obtain ⟨e1_, e2_, e3_⟩ := rd_no (l := l) (no_sum (by omega) ph18 ph54)
        exact ⟨by rw [e1_, e2_, e3_, decide_eq_false (no_sum (by omega) ph18 ph54)]; rfl, K⟩
      · have h58 : (((crc ((payS l) ++ (List.drop 48 l)) : Nat) : Int) == ((beval (List.take 4 (List.drop 1 l)) : Nat) : Int)) = true := Bool.not_inj (y := true) h53
        have ph58 := eq_of_beq h58
        refine WA.rw (t := 50) (v := .bool false) (congrArg Value.bool h53) (k := ?_)
        refine WA.quiet2 10 (d := 51) (.string ⟨(l).toArray⟩) KC (hi := rfl) (k := ?_)
        refine WA.quiet2 11 (d := 52) (.int .i64 (5 + ((List.getD l (0 : Int).toNat 0).toNat : Int))) KC (hi := rfl) (k := ?_)
        refine WA.quietR2 12 (d := 53) (.string ⟨(List.drop ((5 + ((List.getD l (0 : Int).toNat 0).toNat : Int)).toNat) (List.take 48 l)).toArray⟩) KC (exec_cut (vx := .string ⟨(l).toArray⟩) (lo' := (some (.int .i64 (5 + ((List.getD l (0 : Int).toNat 0).toNat : Int))))) (hi' := (some (.int .i64 48))) (mx' := none) (fun w_ => run_cut (P := Tryz.prog) (w := w_) (lo := (some (.int .i64 (5 + ((List.getD l (0 : Int).toNat 0).toNat : Int))))) (hi := (some (.int .i64 48))) (T := 9) (a := (5 + ((List.getD l (0 : Int).toNat 0).toNat : Int)).toNat) (b := 48) (l := l) (by kernel_rfl) (.inr ⟨_, _, rfl, by omega⟩) (.inr ⟨_, _, rfl, by omega⟩) (by first | omega | (simp; omega)) (by first | omega | (simp; omega)))) (hi := rfl) (k := ?_)
        refine WA.step 13 (hi := rfl) (k := ?_)
        refine WL.callG (d := 54) (f := 73) (args := #[.string ⟨(List.drop ((5 + ((List.getD l (0 : Int).toNat 0).toNat : Int)).toNat) (List.take 48 l)).toArray⟩, .string ⟨#[0]⟩]) (trim0_c (l := List.drop ((5 + ((List.getD l (0 : Int).toNat 0).toNat : Int)).toNat) (List.take 48 l)) (by show List.length (List.drop ((5 + ((List.getD l (0 : Int).toNat 0).toNat : Int)).toNat) (List.take 48 l)) ≤ _; first | omega | (simp; done) | (simp; omega)) w50) (k := fun e_ w59 h_ => ?_)
        obtain ⟨r60, rfl, hr61, k62⟩ := h_
        refine ⟨_, rfl, ?_⟩
        replace hb4 := k62.heap hb4 id
        replace hb32 := k62.heap hb32 id
        replace K := K.trans (k62.any _)
        replace KC := KC.trans (k62.any _)
        refine WL.nil ?_
        refine WX.nxt KC ?_
        refine WA.quiet2 14 (d := 55) (.bool !(ByteArray.toList ⟨(r60).toArray⟩ == ByteArray.toList ⟨([]).toArray⟩)) KC (hi := rfl) (k := ?_)
        refine WA.rw (t := 55) (v := .bool (!(decide (r60 = [])))) (str_neq _ _) (k := ?_)
        refine WA.quiet2 15 (d := 56) (.bool (!(decide (r60 = [])))) KC (hi := rfl) (k := ?_)
        refine WA.done (k := ?_)
        clear KC
        refine WX.seqN ?_
        refine WC.cond (b := !(decide (r60 = []))) (ht := fun h63 => ?_) (hf := fun h63 => ?_)
        · have h64 : (decide (r60 = [])) = false := Bool.not_inj (y := false) h63
          have ph64 := of_decide_eq_false h64
          refine WC.seq ?_
          refine WC.region ?_
          refine WL.op (d := 57) (.agg #[.string ⟨#[]⟩, .int .u64 0, .int .u64 0]) (k := ?_)
          refine WL.store (v := .agg #[.string ⟨#[]⟩, .int .u64 0, .int .u64 0]) (i := 0) (cs' := #[.string ⟨#[]⟩, .int .u64 0, .int .u64 0]) hb4 (k := fun w65 hb66 k67 => ?_)
          replace hb32 := k67.heap hb32 (Ne.symm n30)
          replace K := K.trans' k67 (fun i hi e => absurd (e ▸ hi) (Nat.not_lt.2 z6))
          clear hb4
          refine WL.op (d := 3) (.bool false) (k := ?_)
          refine WL.nil ?_
          refine WX.seqN ?_
          refine WC.ret ?_
          refine WX.seqR ?_
          refine WX.ret (rs := [.cell 2 96, .tmp 3]) [.agg #[.string ⟨#[]⟩, .int .u64 0, .int .u64 0], .bool false] (.tuple #[.agg #[.string ⟨#[]⟩, .int .u64 0, .int .u64 0], .bool false]) ⟨⟨_, (by kernel_rfl), ldN (T := 96) (i := 0) (m := 3) (l := [.string ⟨#[]⟩, .int .u64 0, .int .u64 0]) hb66⟩, (by kernel_rfl), trivial⟩ (k := ?_)
          obtain ⟨e1_, e2_, e3_⟩ := rd_no (l := l) (no_zero (by omega) ph18 hr61 ph64)
          exact ⟨by rw [e1_, e2_, e3_, decide_eq_false (no_zero (by omega) ph18 hr61 ph64)]; rfl, K⟩
        · have h68 : (decide (r60 = [])) = true := Bool.not_inj (y := true) h63
          have ph68 := of_decide_eq_true h68
          refine WC.skip ?_
          refine WX.seqN ?_
          refine WC.seq ?_
          refine WC.region ?_
          refine WL.load (v := .agg #[.string ⟨(payS l).toArray⟩, .int .u64 ((tgE l : Nat) : Int), .int .u64 ((tgN l : Nat) : Int)]) (ldN (T := 96) (i := 0) (m := 3) (l := [.string ⟨(payS l).toArray⟩, .int .u64 ((tgE l : Nat) : Int), .int .u64 ((tgN l : Nat) : Int)]) hb32) (k := ?_)
          refine WL.store (v := .agg #[.string ⟨(payS l).toArray⟩, .int .u64 ((tgE l : Nat) : Int), .int .u64 ((tgN l : Nat) : Int)]) (i := 0) (cs' := #[.string ⟨(payS l).toArray⟩, .int .u64 ((tgE l : Nat) : Int), .int .u64 ((tgN l : Nat) : Int)]) hb4 (k := fun w69 hb70 k71 => ?_)
          replace hb32 := k71.heap hb32 (Ne.symm n30)
          replace K := K.trans' k71 (fun i hi e => absurd (e ▸ hi) (Nat.not_lt.2 z6))
          clear hb4
          refine WL.op (d := 3) (.bool true) (k := ?_)
          refine WL.nil ?_
          refine WX.seqN ?_
          refine WC.ret ?_
          refine WX.ret (rs := [.cell 2 96, .tmp 3]) [.agg #[.string ⟨(payS l).toArray⟩, .int .u64 ((tgE l : Nat) : Int), .int .u64 ((tgN l : Nat) : Int)], .bool true] (.tuple #[.agg #[.string ⟨(payS l).toArray⟩, .int .u64 ((tgE l : Nat) : Int), .int .u64 ((tgN l : Nat) : Int)], .bool true]) ⟨⟨_, (by kernel_rfl), ldN (T := 96) (i := 0) (m := 3) (l := [.string ⟨(payS l).toArray⟩, .int .u64 ((tgE l : Nat) : Int), .int .u64 ((tgN l : Nat) : Int)]) hb70⟩, (by kernel_rfl), trivial⟩ (k := ?_)
          obtain ⟨e1_, e2_, e3_⟩ := rd_yes (yes_ (by omega) ph18 ph58 hr61 ph68)
          exact ⟨by rw [e1_, e2_, e3_, decide_eq_true (yes_ (by omega) ph18 ph58 hr61 ph68)], K⟩

set_option maxRecDepth 100000 in
set_option maxHeartbeats 4000000 in
theorem u04Read_c {l : List UInt8} (hm : l.length ≤ 1000000) (w : World) : Calls Tryz.prog 42 #[.string ⟨l.toArray⟩] w fun e_ w' => e_ = .returned (.tuple #[.agg #[.string ⟨(rdP l).toArray⟩, .int .u64 (rdE l : Int), .int .u64 (rdN l : Int)], .bool (decide (isCell l))]) ∧ Adds w w' := by
  have K : Keeps (fun _ => False) w w := Keeps.refl _ w
  refine Calls.start Tryz.func42 rfl (by kernel_rfl) ?_
  refine WC.seq ?_
  refine WC.region ?_
  refine WL.new (d := 2) (T := 96) #[.string ⟨#[]⟩, .int .u64 0, .int .u64 0] (k := fun b1 w2 g3 hb4 k5 => ?_)
  have z6 := Nat.le_trans K.size g3
  replace K := K.trans (k5.any _)
  refine WL.op (d := 3) (.bool false) (k := ?_)
  refine WL.nil ?_
  refine WX.seqN ?_
  refine WC.seq ?_
  refine WC.seq ?_
  refine WC.region ?_
  refine WL.op (d := 8) (.string ⟨(l).toArray⟩) (k := ?_)
  refine WL.op (d := 9) (.int .i64 (l.length : Int)) (k := ?_)
  refine WL.op (d := 10) (.bool ((l.length : Int) != 64)) (k := ?_)
  refine WL.op (d := 11) (.bool ((l.length : Int) != 64)) (k := ?_)
  refine bsplit ((l.length : Int) != 64) (fun h7 => ?_) (fun h7 => ?_)
  · have ph7 := bne_iff_ne.1 h7
    refine WL.rw (t := 11) (v := .bool true) (congrArg Value.bool h7) (k := ?_)
    refine WL.skip (d := 12) (k := ?_)
    refine WL.skip (d := 13) (k := ?_)
    refine WL.skip (d := 14) (k := ?_)
    refine WL.op (d := 15) (.bool true) (k := ?_)
    refine WL.nil ?_
    refine WX.seqN ?_
    refine WC.condT (k := ?_)
    refine WC.seq ?_
    refine WC.region ?_
    refine WL.op (d := 16) (.agg #[.string ⟨#[]⟩, .int .u64 0, .int .u64 0]) (k := ?_)
    refine WL.store (v := .agg #[.string ⟨#[]⟩, .int .u64 0, .int .u64 0]) (i := 0) (cs' := #[.string ⟨#[]⟩, .int .u64 0, .int .u64 0]) hb4 (k := fun w8 hb9 k10 => ?_)
    replace K := K.trans' k10 (fun i hi e => absurd (e ▸ hi) (Nat.not_lt.2 z6))
    clear hb4
    refine WL.op (d := 3) (.bool false) (k := ?_)
    refine WL.nil ?_
    refine WX.seqN ?_
    refine WC.ret ?_
    refine WX.seqR ?_
    refine WX.ret (rs := [.cell 2 96, .tmp 3]) [.agg #[.string ⟨#[]⟩, .int .u64 0, .int .u64 0], .bool false] (.tuple #[.agg #[.string ⟨#[]⟩, .int .u64 0, .int .u64 0], .bool false]) ⟨⟨_, (by kernel_rfl), ldN (T := 96) (i := 0) (m := 3) (l := [.string ⟨#[]⟩, .int .u64 0, .int .u64 0]) hb9⟩, (by kernel_rfl), trivial⟩ (k := ?_)
    obtain ⟨e1_, e2_, e3_⟩ := rd_no (l := l) (no_len (fun h => ph7 (by omega)))
    exact ⟨by rw [e1_, e2_, e3_, decide_eq_false (no_len (fun h => ph7 (by omega)))]; rfl, K⟩
  · have ph7 := of_bne_false h7
    refine WL.rw (t := 11) (v := .bool false) (congrArg Value.bool h7) (k := ?_)
    refine WL.op (d := 12) (.string ⟨(l).toArray⟩) (k := ?_)
    refine WL.strAt (T := 9) (l := l) (i := 0) (kk := .i64) (d := 13) (by omega) (by first | omega | (simp; omega)) (by kernel_rfl) (by kernel_rfl) (by kernel_rfl) (by kernel_rfl) (by kernel_rfl) ?_
    have ub11 := u8_lt (List.getD l (0 : Int).toNat 0)
    refine WL.op (d := 14) (.bool (decide (((List.getD l (0 : Int).toNat 0).toNat : Int) > 43))) (k := ?_)
    refine WL.op (d := 15) (.bool (decide (((List.getD l (0 : Int).toNat 0).toNat : Int) > 43))) (k := ?_)
    refine WL.nil ?_
    refine WX.seqN ?_
    refine WC.cond (b := decide (((List.getD l (0 : Int).toNat 0).toNat : Int) > 43)) (ht := fun h12 => ?_) (hf := fun h12 => ?_)
    · have ph12 := of_decide_eq_true h12
      refine WC.seq ?_
      refine WC.region ?_
      refine WL.op (d := 16) (.agg #[.string ⟨#[]⟩, .int .u64 0, .int .u64 0]) (k := ?_)
      refine WL.store (v := .agg #[.string ⟨#[]⟩, .int .u64 0, .int .u64 0]) (i := 0) (cs' := #[.string ⟨#[]⟩, .int .u64 0, .int .u64 0]) hb4 (k := fun w13 hb14 k15 => ?_)
      replace K := K.trans' k15 (fun i hi e => absurd (e ▸ hi) (Nat.not_lt.2 z6))
      clear hb4
      refine WL.op (d := 3) (.bool false) (k := ?_)
      refine WL.nil ?_
      refine WX.seqN ?_
      refine WC.ret ?_
      refine WX.seqR ?_
      refine WX.ret (rs := [.cell 2 96, .tmp 3]) [.agg #[.string ⟨#[]⟩, .int .u64 0, .int .u64 0], .bool false] (.tuple #[.agg #[.string ⟨#[]⟩, .int .u64 0, .int .u64 0], .bool false]) ⟨⟨_, (by kernel_rfl), ldN (T := 96) (i := 0) (m := 3) (l := [.string ⟨#[]⟩, .int .u64 0, .int .u64 0]) hb14⟩, (by kernel_rfl), trivial⟩ (k := ?_)
      obtain ⟨e1_, e2_, e3_⟩ := rd_no (l := l) (no_head ph12)
      exact ⟨by rw [e1_, e2_, e3_, decide_eq_false (no_head ph12)]; rfl, K⟩
    · have ph12 := of_decide_eq_false h12
      refine WC.skip ?_
      refine WX.seqN ?_
      refine WC.seq ?_
      refine WC.region ?_
      refine WL.op (d := 17) (.string ⟨(l).toArray⟩) (k := ?_)
      refine WL.callG (d := 18) (f := 57) (args := #[.string ⟨(l).toArray⟩]) (u04Tag_c (l := l) (by show List.length l ≤ _; first | omega | (simp; done) | (simp; omega)) w2) (k := fun e_ w18 h_ => ⟨.agg #[.int .u64 ((tgE l : Nat) : Int), .int .u64 ((tgN l : Nat) : Int), .bool (decide (List.length l = 64))], h_.1, ?_⟩)
      have k19 := h_.2; clear h_
      replace hb4 := k19.heap hb4 id
      replace K := K.trans (k19.any _)
      have te16 := tgE_lt l
      have te17 := tgN_lt l
      refine WL.new (d := 4) (T := 110) #[.int .u64 0, .int .u64 0, .bool false] (k := fun b20 w21 g22 hb23 k24 => ?_)
      have z25 := Nat.le_trans K.size g22
      have n26 : b1 ≠ b20 := Nat.ne_of_lt (Nat.lt_of_lt_of_le (lt_of_heap hb4) g22)
      replace hb4 := k24.heap hb4 id
      replace K := K.trans (k24.any _)
      refine WL.store (v := .agg #[.int .u64 ((tgE l : Nat) : Int), .int .u64 ((tgN l : Nat) : Int), .bool (decide (List.length l = 64))]) (i := 0) (cs' := #[.int .u64 ((tgE l : Nat) : Int), .int .u64 ((tgN l : Nat) : Int), .bool (decide (List.length l = 64))]) hb23 (k := fun w27 hb28 k29 => ?_)
      replace hb4 := k29.heap hb4 n26
      replace K := K.trans' k29 (fun i hi e => absurd (e ▸ hi) (Nat.not_lt.2 z25))
      clear hb23
      refine WL.nil ?_
      refine WX.seqN ?_
      refine WC.seq ?_
      refine WC.mixed (fun _ => False) 12 (k := fun w30 k31 => ?_)
      replace hb4 := k31.heap hb4 id
      replace hb28 := k31.heap hb28 id
      replace K := K.trans (k31.any _)
      have KC := Keeps.refl (fun _ => False) w30
      have bh32 := hb4
      have bh33 := hb28
      have Kb := K
      refine WA.quiet 0 (d := 19) (.string ⟨(l).toArray⟩) KC (hi := rfl) (k := ?_)
      refine WA.quiet 1 (d := 20) (.string ⟨(l).toArray⟩) KC (hi := rfl) (k := ?_)
      refine WA.quietR 2 (d := 21) (.int .u8 ((List.getD l (0 : Int).toNat 0).toNat : Int)) KC (exec_strAt (l := l) (i := 0) (kk := .i64) (by omega) (by first | omega | (simp; omega))) (hi := rfl) (k := ?_)
      have ub34 := u8_lt (List.getD l (0 : Int).toNat 0)
      refine WA.quiet 3 (d := 22) (.int .i64 (IntKind.i64.wrap ((List.getD l (0 : Int).toNat 0).toNat : Int))) KC (hi := rfl) (k := ?_)
      refine WA.rw (t := 22) (v := .int .i64 ((List.getD l (0 : Int).toNat 0).toNat : Int)) (congrArg (Value.int .i64) (IntWalk.i64_in _ (by omega))) (k := ?_)
      refine WA.quiet 4 (d := 23) (.int .i64 (IntKind.i64.wrap (5 + ((List.getD l (0 : Int).toNat 0).toNat : Int)))) KC (hi := rfl) (k := ?_)
      refine WA.rw (t := 23) (v := .int .i64 (5 + ((List.getD l (0 : Int).toNat 0).toNat : Int))) (congrArg (Value.int .i64) (IntWalk.i64_in _ (by omega))) (k := ?_)
      refine WA.quietR 5 (d := 24) (.string ⟨(List.drop 5 (List.take ((5 + ((List.getD l (0 : Int).toNat 0).toNat : Int)).toNat) l)).toArray⟩) KC (exec_cut (vx := .string ⟨(l).toArray⟩) (lo' := (some (.int .i64 5))) (hi' := (some (.int .i64 (5 + ((List.getD l (0 : Int).toNat 0).toNat : Int))))) (mx' := none) (fun w_ => run_cut (P := Tryz.prog) (w := w_) (lo := (some (.int .i64 5))) (hi := (some (.int .i64 (5 + ((List.getD l (0 : Int).toNat 0).toNat : Int))))) (T := 9) (a := 5) (b := (5 + ((List.getD l (0 : Int).toNat 0).toNat : Int)).toNat) (l := l) (by kernel_rfl) (.inr ⟨_, _, rfl, by omega⟩) (.inr ⟨_, _, rfl, by omega⟩) (by first | omega | (simp; omega)) (by first | omega | (simp; omega)))) (hi := rfl) (k := ?_)
      have pl35 := payS_len l
      refine WA.rw (t := 24) (v := .string ⟨(payS l).toArray⟩) (congrArg (fun l : List UInt8 => Value.string ⟨l.toArray⟩) (pay_cut l)) (k := ?_)
      refine WA.quiet 6 (d := 25) (.pointer (some ⟨b20, 0, none⟩)) KC (hi := rfl) (k := ?_)
      refine WA.quietR 7 (d := 26) (.int .u64 ((tgE l : Nat) : Int)) KC (exec_load (fun w_ k_ => ld1 (T := 29) (i := 0) (k_.heap bh33 id))) (hi := rfl) (k := ?_)
      refine WA.quiet 8 (d := 27) (.pointer (some ⟨b20, 1, none⟩)) KC (hi := rfl) (k := ?_)
      refine WA.quietR 9 (d := 28) (.int .u64 ((tgN l : Nat) : Int)) KC (exec_load (fun w_ k_ => ld1 (T := 29) (i := 1) (k_.heap bh33 id))) (hi := rfl) (k := ?_)
      refine WA.quiet 10 (d := 29) (.agg #[.string ⟨(payS l).toArray⟩, .int .u64 ((tgE l : Nat) : Int), .int .u64 ((tgN l : Nat) : Int)]) KC (hi := rfl) (k := ?_)
      refine WA.step 11 (hi := rfl) (k := ?_)
      refine WL.new (d := 5) (T := 96) #[.string ⟨#[]⟩, .int .u64 0, .int .u64 0] (k := fun b36 w37 g38 hb39 k40 => ?_)
      have z41 := Nat.le_trans K.size g38
      have zc42 := Nat.le_trans KC.size g38
      have n43 : b1 ≠ b36 := Nat.ne_of_lt (Nat.lt_of_lt_of_le (lt_of_heap hb4) g38)
      have n44 : b20 ≠ b36 := Nat.ne_of_lt (Nat.lt_of_lt_of_le (lt_of_heap hb28) g38)
      replace hb4 := k40.heap hb4 id
      replace hb28 := k40.heap hb28 id
      replace K := K.trans (k40.any _)
      replace KC := KC.trans (k40.any _)
      refine WL.nil ?_
      refine WX.nxt KC ?_
      refine WA.step 12 (hi := rfl) (k := ?_)
      refine WL.store (v := .agg #[.string ⟨(payS l).toArray⟩, .int .u64 ((tgE l : Nat) : Int), .int .u64 ((tgN l : Nat) : Int)]) (i := 0) (cs' := #[.string ⟨(payS l).toArray⟩, .int .u64 ((tgE l : Nat) : Int), .int .u64 ((tgN l : Nat) : Int)]) hb39 (k := fun w45 hb46 k47 => ?_)
      replace hb4 := k47.heap hb4 n43
      replace hb28 := k47.heap hb28 n44
      replace K := K.trans' k47 (fun i hi e => absurd (e ▸ hi) (Nat.not_lt.2 z41))
      clear hb39
      refine WL.nil ?_
      refine WX.nxtL ?_
      refine WA.done (k := ?_)
      clear KC
      refine WX.seqN ?_
      refine WC.seq ?_
      refine WC.region ?_
      refine WL.load (v := .agg #[.string ⟨(payS l).toArray⟩, .int .u64 ((tgE l : Nat) : Int), .int .u64 ((tgN l : Nat) : Int)]) (ldN (T := 96) (i := 0) (m := 3) (l := [.string ⟨(payS l).toArray⟩, .int .u64 ((tgE l : Nat) : Int), .int .u64 ((tgN l : Nat) : Int)]) hb46) (k := ?_)
      refine WL.callG (d := 32) (f := 43) (args := #[.agg #[.string ⟨(payS l).toArray⟩, .int .u64 ((tgE l : Nat) : Int), .int .u64 ((tgN l : Nat) : Int)]]) (u04Make_ok (p := (payS l)) (e := tgE l) (n := tgN l) (by first | omega | (simp; done) | (simp; omega)) (by show List.length (payS l) ≤ _; first | omega | (simp; done) | (simp; omega)) (by omega) (by omega) w45) (k := fun e_ w49 h_ => ⟨.tuple #[.string ⟨(makeS (payS l) (tgE l) (tgN l)).toArray⟩, .int .i64 0], h_.1, ?_⟩)
      have k50 := h_.2; clear h_
      replace hb4 := k50.heap hb4 id
      replace hb28 := k50.heap hb28 id
      replace hb46 := k50.heap hb46 id
      replace K := K.trans (k50.any _)
      have ml48 := makeS_len (p := (payS l)) (by first | omega | (simp; done) | (simp; omega)) (tgE l) (tgN l)
      refine WL.op (d := 30) (.tuple #[.string ⟨(makeS (payS l) (tgE l) (tgN l)).toArray⟩, .int .i64 0]) (k := ?_)
      refine WL.op (d := 33) (.string ⟨(makeS (payS l) (tgE l) (tgN l)).toArray⟩) (k := ?_)
      refine WL.op (d := 34) (.int .i64 0) (k := ?_)
      refine WL.op (d := 6) (.string ⟨(makeS (payS l) (tgE l) (tgN l)).toArray⟩) (k := ?_)
      refine WL.op (d := 7) (.int .i64 0) (k := ?_)
      refine WL.nil ?_
      refine WX.seqN ?_
      refine WC.seq ?_
      refine WC.seq ?_
      refine WC.region ?_
      refine WL.op (d := 35) (.string ⟨(makeS (payS l) (tgE l) (tgN l)).toArray⟩) (k := ?_)
      refine WL.op (d := 36) (.string ⟨(l).toArray⟩) (k := ?_)
      refine WL.opE (d := 37) (.bool !(ByteArray.toList ⟨(makeS (payS l) (tgE l) (tgN l)).toArray⟩ == ByteArray.toList ⟨(l).toArray⟩)) (v := .bool (!(decide (makeS (payS l) (tgE l) (tgN l) = l)))) (str_neq _ _) (k := ?_)
      refine WL.nil ?_
      refine WX.seqN ?_
      refine WC.cond (b := !(decide (makeS (payS l) (tgE l) (tgN l) = l))) (ht := fun h51 => ?_) (hf := fun h51 => ?_)
      · have h52 : (decide (makeS (payS l) (tgE l) (tgN l) = l)) = false := Bool.not_inj (y := false) h51
        have ph52 := of_decide_eq_false h52
        refine WC.seq ?_
        refine WC.region ?_
        refine WL.op (d := 38) (.agg #[.string ⟨#[]⟩, .int .u64 0, .int .u64 0]) (k := ?_)
        refine WL.store (v := .agg #[.string ⟨#[]⟩, .int .u64 0, .int .u64 0]) (i := 0) (cs' := #[.string ⟨#[]⟩, .int .u64 0, .int .u64 0]) hb4 (k := fun w53 hb54 k55 => ?_)
        replace hb28 := k55.heap hb28 (Ne.symm n26)
        replace hb46 := k55.heap hb46 (Ne.symm n43)
        replace K := K.trans' k55 (fun i hi e => absurd (e ▸ hi) (Nat.not_lt.2 z6))
        clear hb4
        refine WL.op (d := 3) (.bool false) (k := ?_)
        refine WL.nil ?_
        refine WX.seqN ?_
        refine WC.ret ?_
        refine WX.seqR ?_
        refine WX.ret (rs := [.cell 2 96, .tmp 3]) [.agg #[.string ⟨#[]⟩, .int .u64 0, .int .u64 0], .bool false] (.tuple #[.agg #[.string ⟨#[]⟩, .int .u64 0, .int .u64 0], .bool false]) ⟨⟨_, (by kernel_rfl), ldN (T := 96) (i := 0) (m := 3) (l := [.string ⟨#[]⟩, .int .u64 0, .int .u64 0]) hb54⟩, (by kernel_rfl), trivial⟩ (k := ?_)
        obtain ⟨e1_, e2_, e3_⟩ := rd_no (l := l) (fun k => ph52 ((mk_iff (by omega) ph12).1 k))
        exact ⟨by rw [e1_, e2_, e3_, decide_eq_false (fun k => ph52 ((mk_iff (by omega) ph12).1 k))]; rfl, K⟩
      · have h56 : (decide (makeS (payS l) (tgE l) (tgN l) = l)) = true := Bool.not_inj (y := true) h51
        have ph56 := of_decide_eq_true h56
        refine WC.skip ?_
        refine WX.seqN ?_
        refine WC.seq ?_
        refine WC.region ?_
        refine WL.load (v := .agg #[.string ⟨(payS l).toArray⟩, .int .u64 ((tgE l : Nat) : Int), .int .u64 ((tgN l : Nat) : Int)]) (ldN (T := 96) (i := 0) (m := 3) (l := [.string ⟨(payS l).toArray⟩, .int .u64 ((tgE l : Nat) : Int), .int .u64 ((tgN l : Nat) : Int)]) hb46) (k := ?_)
        refine WL.store (v := .agg #[.string ⟨(payS l).toArray⟩, .int .u64 ((tgE l : Nat) : Int), .int .u64 ((tgN l : Nat) : Int)]) (i := 0) (cs' := #[.string ⟨(payS l).toArray⟩, .int .u64 ((tgE l : Nat) : Int), .int .u64 ((tgN l : Nat) : Int)]) hb4 (k := fun w57 hb58 k59 => ?_)
        replace hb28 := k59.heap hb28 (Ne.symm n26)
        replace hb46 := k59.heap hb46 (Ne.symm n43)
        replace K := K.trans' k59 (fun i hi e => absurd (e ▸ hi) (Nat.not_lt.2 z6))
        clear hb4
        refine WL.op (d := 3) (.bool true) (k := ?_)
        refine WL.nil ?_
        refine WX.seqN ?_
        refine WC.ret ?_
        refine WX.ret (rs := [.cell 2 96, .tmp 3]) [.agg #[.string ⟨(payS l).toArray⟩, .int .u64 ((tgE l : Nat) : Int), .int .u64 ((tgN l : Nat) : Int)], .bool true] (.tuple #[.agg #[.string ⟨(payS l).toArray⟩, .int .u64 ((tgE l : Nat) : Int), .int .u64 ((tgN l : Nat) : Int)], .bool true]) ⟨⟨_, (by kernel_rfl), ldN (T := 96) (i := 0) (m := 3) (l := [.string ⟨(payS l).toArray⟩, .int .u64 ((tgE l : Nat) : Int), .int .u64 ((tgN l : Nat) : Int)]) hb58⟩, (by kernel_rfl), trivial⟩ (k := ?_)
        obtain ⟨e1_, e2_, e3_⟩ := rd_yes ((mk_iff (by omega) ph12).2 ph56)
        exact ⟨by rw [e1_, e2_, e3_, decide_eq_true ((mk_iff (by omega) ph12).2 ph56)], K⟩

set_option maxRecDepth 100000 in
set_option maxHeartbeats 4000000 in
theorem fWhole_c {l : List UInt8} {e n : Nat} (hm : l.length ≤ 1000000) (w : World) : Calls Tryz.prog 54 #[.string ⟨l.toArray⟩, .int .u64 (e : Int), .int .u64 (n : Int)] w fun e_ w' => e_ = .returned (.bool (decide (isCell l ∧ rdE l = e ∧ rdN l = n))) ∧ Adds w w' := by
  have K : Keeps (fun _ => False) w w := Keeps.refl _ w
  refine Calls.start Tryz.func54 rfl (by kernel_rfl) ?_
  refine WC.seq ?_
  refine WC.region ?_
  refine WL.op (d := 6) (.bool false) (k := ?_)
  refine WL.nil ?_
  refine WX.seqN ?_
  refine WC.seq ?_
  refine WC.region ?_
  refine WL.op (d := 10) (.string ⟨(l).toArray⟩) (k := ?_)
  refine WL.callG (d := 11) (f := 55) (args := #[.string ⟨(l).toArray⟩]) (fRead_c (l := l) (by show List.length l ≤ _; first | omega | (simp; done) | (simp; omega)) w) (k := fun e_ w4 h_ => ⟨.tuple #[.agg #[.string ⟨(rdP l).toArray⟩, .int .u64 ((rdE l : Nat) : Int), .int .u64 ((rdN l : Nat) : Int)], .bool (decide (isCell l))], h_.1, ?_⟩)
  have k5 := h_.2; clear h_
  replace K := K.trans (k5.any _)
  have te1 := rdE_lt l
  have te2 := rdN_lt l
  have te3 := rdP_len l
  refine WL.op (d := 9) (.tuple #[.agg #[.string ⟨(rdP l).toArray⟩, .int .u64 ((rdE l : Nat) : Int), .int .u64 ((rdN l : Nat) : Int)], .bool (decide (isCell l))]) (k := ?_)
  refine WL.op (d := 12) (.agg #[.string ⟨(rdP l).toArray⟩, .int .u64 ((rdE l : Nat) : Int), .int .u64 ((rdN l : Nat) : Int)]) (k := ?_)
  refine WL.op (d := 13) (.bool (decide (isCell l))) (k := ?_)
  refine WL.new (d := 7) (T := 96) #[.string ⟨#[]⟩, .int .u64 0, .int .u64 0] (k := fun b6 w7 g8 hb9 k10 => ?_)
  have z11 := Nat.le_trans K.size g8
  replace K := K.trans (k10.any _)
  refine WL.store (v := .agg #[.string ⟨(rdP l).toArray⟩, .int .u64 ((rdE l : Nat) : Int), .int .u64 ((rdN l : Nat) : Int)]) (i := 0) (cs' := #[.string ⟨(rdP l).toArray⟩, .int .u64 ((rdE l : Nat) : Int), .int .u64 ((rdN l : Nat) : Int)]) hb9 (k := fun w12 hb13 k14 => ?_)
  replace K := K.trans' k14 (fun i hi e => absurd (e ▸ hi) (Nat.not_lt.2 z11))
  clear hb9
  refine WL.op (d := 8) (.bool (decide (isCell l))) (k := ?_)
  refine WL.nil ?_
  refine WX.seqN ?_
  refine WC.seq ?_
  refine WC.region ?_
  refine WL.op (d := 14) (.bool (decide (isCell l))) (k := ?_)
  refine WL.op (d := 15) (.bool (decide (isCell l))) (k := ?_)
  refine bsplit (decide (isCell l)) (fun h15 => ?_) (fun h15 => ?_)
  · have ph15 := of_decide_eq_true h15
    refine WL.rw (t := 15) (v := .bool true) (congrArg Value.bool h15) (k := ?_)
    refine WL.op (d := 16) (.pointer (some ⟨b6, 1, none⟩)) (k := ?_)
    refine WL.load (v := .int .u64 ((rdE l : Nat) : Int)) (ld1 (T := 29) (i := 1) hb13) (k := ?_)
    refine WL.op (d := 18) (.int .u64 ((e : Nat) : Int)) (k := ?_)
    refine WL.op (d := 19) (.bool (((rdE l : Nat) : Int) == ((e : Nat) : Int))) (k := ?_)
    refine WL.op (d := 20) (.bool (((rdE l : Nat) : Int) == ((e : Nat) : Int))) (k := ?_)
    refine WL.op (d := 21) (.bool (((rdE l : Nat) : Int) == ((e : Nat) : Int))) (k := ?_)
    refine bsplit (((rdE l : Nat) : Int) == ((e : Nat) : Int)) (fun h16 => ?_) (fun h16 => ?_)
    · have ph16 := eq_of_beq h16
      refine WL.rw (t := 21) (v := .bool true) (congrArg Value.bool h16) (k := ?_)
      refine WL.op (d := 22) (.pointer (some ⟨b6, 2, none⟩)) (k := ?_)
      refine WL.load (v := .int .u64 ((rdN l : Nat) : Int)) (ld1 (T := 29) (i := 2) hb13) (k := ?_)
      refine WL.op (d := 24) (.int .u64 ((n : Nat) : Int)) (k := ?_)
      refine WL.op (d := 25) (.bool (((rdN l : Nat) : Int) == ((n : Nat) : Int))) (k := ?_)
      refine WL.op (d := 26) (.bool (((rdN l : Nat) : Int) == ((n : Nat) : Int))) (k := ?_)
      refine WL.op (d := 6) (.bool (((rdN l : Nat) : Int) == ((n : Nat) : Int))) (k := ?_)
      refine WL.nil ?_
      refine WX.seqN ?_
      refine WC.ret ?_
      refine WX.ret (rs := [.tmp 6]) [.bool (((rdN l : Nat) : Int) == ((n : Nat) : Int))] (.bool (((rdN l : Nat) : Int) == ((n : Nat) : Int))) ⟨(by kernel_rfl), trivial⟩ (k := ?_)
      exact ⟨ret_bool (wh_fin ph15 ph16), K⟩
    · have ph16 := ne_of_beq_false h16
      refine WL.rw (t := 21) (v := .bool false) (congrArg Value.bool h16) (k := ?_)
      refine WL.skip (d := 22) (k := ?_)
      refine WL.skip (d := 23) (k := ?_)
      refine WL.skip (d := 24) (k := ?_)
      refine WL.skip (d := 25) (k := ?_)
      refine WL.op (d := 26) (.bool false) (k := ?_)
      refine WL.op (d := 6) (.bool false) (k := ?_)
      refine WL.nil ?_
      refine WX.seqN ?_
      refine WC.ret ?_
      refine WX.ret (rs := [.tmp 6]) [.bool false] (.bool false) ⟨(by kernel_rfl), trivial⟩ (k := ?_)
      exact ⟨ret_bool (wh_no2 ph16), K⟩
  · have ph15 := of_decide_eq_false h15
    refine WL.rw (t := 15) (v := .bool false) (congrArg Value.bool h15) (k := ?_)
    refine WL.skip (d := 16) (k := ?_)
    refine WL.skip (d := 17) (k := ?_)
    refine WL.skip (d := 18) (k := ?_)
    refine WL.skip (d := 19) (k := ?_)
    refine WL.op (d := 20) (.bool false) (k := ?_)
    refine WL.op (d := 21) (.bool false) (k := ?_)
    refine WL.skip (d := 22) (k := ?_)
    refine WL.skip (d := 23) (k := ?_)
    refine WL.skip (d := 24) (k := ?_)
    refine WL.skip (d := 25) (k := ?_)
    refine WL.op (d := 26) (.bool false) (k := ?_)
    refine WL.op (d := 6) (.bool false) (k := ?_)
    refine WL.nil ?_
    refine WX.seqN ?_
    refine WC.ret ?_
    refine WX.ret (rs := [.tmp 6]) [.bool false] (.bool false) ⟨(by kernel_rfl), trivial⟩ (k := ?_)
    exact ⟨ret_bool (wh_no ph15), K⟩

set_option maxRecDepth 100000 in
set_option maxHeartbeats 4000000 in
theorem u04Whole_c {l : List UInt8} {e n : Nat} (hm : l.length ≤ 1000000) (w : World) : Calls Tryz.prog 41 #[.string ⟨l.toArray⟩, .int .u64 (e : Int), .int .u64 (n : Int)] w fun e_ w' => e_ = .returned (.bool (decide (isCell l ∧ rdE l = e ∧ rdN l = n))) ∧ Adds w w' := by
  have K : Keeps (fun _ => False) w w := Keeps.refl _ w
  refine Calls.start Tryz.func41 rfl (by kernel_rfl) ?_
  refine WC.seq ?_
  refine WC.region ?_
  refine WL.op (d := 6) (.bool false) (k := ?_)
  refine WL.nil ?_
  refine WX.seqN ?_
  refine WC.seq ?_
  refine WC.region ?_
  refine WL.op (d := 10) (.string ⟨(l).toArray⟩) (k := ?_)
  refine WL.callG (d := 11) (f := 42) (args := #[.string ⟨(l).toArray⟩]) (u04Read_c (l := l) (by show List.length l ≤ _; first | omega | (simp; done) | (simp; omega)) w) (k := fun e_ w4 h_ => ⟨.tuple #[.agg #[.string ⟨(rdP l).toArray⟩, .int .u64 ((rdE l : Nat) : Int), .int .u64 ((rdN l : Nat) : Int)], .bool (decide (isCell l))], h_.1, ?_⟩)
  have k5 := h_.2; clear h_
  replace K := K.trans (k5.any _)
  have te1 := rdE_lt l
  have te2 := rdN_lt l
  have te3 := rdP_len l
  refine WL.op (d := 9) (.tuple #[.agg #[.string ⟨(rdP l).toArray⟩, .int .u64 ((rdE l : Nat) : Int), .int .u64 ((rdN l : Nat) : Int)], .bool (decide (isCell l))]) (k := ?_)
  refine WL.op (d := 12) (.agg #[.string ⟨(rdP l).toArray⟩, .int .u64 ((rdE l : Nat) : Int), .int .u64 ((rdN l : Nat) : Int)]) (k := ?_)
  refine WL.op (d := 13) (.bool (decide (isCell l))) (k := ?_)
  refine WL.new (d := 7) (T := 96) #[.string ⟨#[]⟩, .int .u64 0, .int .u64 0] (k := fun b6 w7 g8 hb9 k10 => ?_)
  have z11 := Nat.le_trans K.size g8
  replace K := K.trans (k10.any _)
  refine WL.store (v := .agg #[.string ⟨(rdP l).toArray⟩, .int .u64 ((rdE l : Nat) : Int), .int .u64 ((rdN l : Nat) : Int)]) (i := 0) (cs' := #[.string ⟨(rdP l).toArray⟩, .int .u64 ((rdE l : Nat) : Int), .int .u64 ((rdN l : Nat) : Int)]) hb9 (k := fun w12 hb13 k14 => ?_)
  replace K := K.trans' k14 (fun i hi e => absurd (e ▸ hi) (Nat.not_lt.2 z11))
  clear hb9
  refine WL.op (d := 8) (.bool (decide (isCell l))) (k := ?_)
  refine WL.nil ?_
  refine WX.seqN ?_
  refine WC.seq ?_
  refine WC.region ?_
  refine WL.op (d := 14) (.bool (decide (isCell l))) (k := ?_)
  refine WL.op (d := 15) (.bool (decide (isCell l))) (k := ?_)
  refine bsplit (decide (isCell l)) (fun h15 => ?_) (fun h15 => ?_)
  · have ph15 := of_decide_eq_true h15
    refine WL.rw (t := 15) (v := .bool true) (congrArg Value.bool h15) (k := ?_)
    refine WL.op (d := 16) (.pointer (some ⟨b6, 1, none⟩)) (k := ?_)
    refine WL.load (v := .int .u64 ((rdE l : Nat) : Int)) (ld1 (T := 29) (i := 1) hb13) (k := ?_)
    refine WL.op (d := 18) (.int .u64 ((e : Nat) : Int)) (k := ?_)
    refine WL.op (d := 19) (.bool (((rdE l : Nat) : Int) == ((e : Nat) : Int))) (k := ?_)
    refine WL.op (d := 20) (.bool (((rdE l : Nat) : Int) == ((e : Nat) : Int))) (k := ?_)
    refine WL.op (d := 21) (.bool (((rdE l : Nat) : Int) == ((e : Nat) : Int))) (k := ?_)
    refine bsplit (((rdE l : Nat) : Int) == ((e : Nat) : Int)) (fun h16 => ?_) (fun h16 => ?_)
    · have ph16 := eq_of_beq h16
      refine WL.rw (t := 21) (v := .bool true) (congrArg Value.bool h16) (k := ?_)
      refine WL.op (d := 22) (.pointer (some ⟨b6, 2, none⟩)) (k := ?_)
      refine WL.load (v := .int .u64 ((rdN l : Nat) : Int)) (ld1 (T := 29) (i := 2) hb13) (k := ?_)
      refine WL.op (d := 24) (.int .u64 ((n : Nat) : Int)) (k := ?_)
      refine WL.op (d := 25) (.bool (((rdN l : Nat) : Int) == ((n : Nat) : Int))) (k := ?_)
      refine WL.op (d := 26) (.bool (((rdN l : Nat) : Int) == ((n : Nat) : Int))) (k := ?_)
      refine WL.op (d := 6) (.bool (((rdN l : Nat) : Int) == ((n : Nat) : Int))) (k := ?_)
      refine WL.nil ?_
      refine WX.seqN ?_
      refine WC.ret ?_
      refine WX.ret (rs := [.tmp 6]) [.bool (((rdN l : Nat) : Int) == ((n : Nat) : Int))] (.bool (((rdN l : Nat) : Int) == ((n : Nat) : Int))) ⟨(by kernel_rfl), trivial⟩ (k := ?_)
      exact ⟨ret_bool (wh_fin ph15 ph16), K⟩
    · have ph16 := ne_of_beq_false h16
      refine WL.rw (t := 21) (v := .bool false) (congrArg Value.bool h16) (k := ?_)
      refine WL.skip (d := 22) (k := ?_)
      refine WL.skip (d := 23) (k := ?_)
      refine WL.skip (d := 24) (k := ?_)
      refine WL.skip (d := 25) (k := ?_)
      refine WL.op (d := 26) (.bool false) (k := ?_)
      refine WL.op (d := 6) (.bool false) (k := ?_)
      refine WL.nil ?_
      refine WX.seqN ?_
      refine WC.ret ?_
      refine WX.ret (rs := [.tmp 6]) [.bool false] (.bool false) ⟨(by kernel_rfl), trivial⟩ (k := ?_)
      exact ⟨ret_bool (wh_no2 ph16), K⟩
  · have ph15 := of_decide_eq_false h15
    refine WL.rw (t := 15) (v := .bool false) (congrArg Value.bool h15) (k := ?_)
    refine WL.skip (d := 16) (k := ?_)
    refine WL.skip (d := 17) (k := ?_)
    refine WL.skip (d := 18) (k := ?_)
    refine WL.skip (d := 19) (k := ?_)
    refine WL.op (d := 20) (.bool false) (k := ?_)
    refine WL.op (d := 21) (.bool false) (k := ?_)
    refine WL.skip (d := 22) (k := ?_)
    refine WL.skip (d := 23) (k := ?_)
    refine WL.skip (d := 24) (k := ?_)
    refine WL.skip (d := 25) (k := ?_)
    refine WL.op (d := 26) (.bool false) (k := ?_)
    refine WL.op (d := 6) (.bool false) (k := ?_)
    refine WL.nil ?_
    refine WX.seqN ?_
    refine WC.ret ?_
    refine WX.ret (rs := [.tmp 6]) [.bool false] (.bool false) ⟨(by kernel_rfl), trivial⟩ (k := ?_)
    exact ⟨ret_bool (wh_no ph15), K⟩

end Go.Proofs.YtdoenmokahbeaaaGreatDoor
