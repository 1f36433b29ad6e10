/- Sums by the table; texts trimmed. -/
import Derived.Test.YtdoenmokahbeaaaGreatDoorFr2
namespace Go.Proofs.YtdoenmokahbeaaaGreatDoor
open Go.RowKit
set_option linter.unusedVariables false
set_option linter.unusedSimpArgs false

def tabZ : Value := .agg (tabL (.int .u32 0) (.int .i32 0) (.int .u32 0) (List.replicate 256 0)).toArray
theorem tab_new {b : Nat} {w : World} (h : w.heap[b]? = some (.cells (Value.cells tabZ) 155 (0, 0))) : TabC b (.int .u32 0) (.int .i32 0) (.int .u32 0) (tabF 0) w := by
  rw [tabF_zero]; exact TabC.of h

set_option maxRecDepth 100000 in
set_option maxHeartbeats 4000000 in
theorem cNew_c (w : World) : Calls Tryz.prog 65 #[] w fun e w' => ∃ b, w.heap.size ≤ b ∧ e = .returned (.pointer (some ⟨b, 0, none⟩)) ∧ TabC b (.int .u32 0) (.int .i32 0) (.int .u32 0) (tabF 0) w' ∧ Adds w w' := by
  have K : Keeps (fun _ => False) w w := Keeps.refl _ w
  refine Calls.start Tryz.func65 rfl (by kernel_rfl) ?_
  refine WC.seq ?_
  refine WC.region ?_
  refine WL.op (d := 0) (.pointer none) (k := ?_)
  refine WL.nil ?_
  refine WX.seqN ?_
  refine WC.seq ?_
  refine WC.region ?_
  refine WL.op (d := 1) (tabZ) (k := ?_)
  refine WL.new (d := 2) (T := 155) (Value.cells (tabZ)) (k := fun b1 w2 g3 hb4 k5 => ?_)
  have z6 := Nat.le_trans K.size g3
  replace K := K.trans (k5.any _)
  have ht7 := tab_new hb4
  clear hb4
  refine WL.op (d := 0) (.pointer (some ⟨b1, 0, none⟩)) (k := ?_)
  refine WL.nil ?_
  refine WX.seqN ?_
  refine WC.ret ?_
  refine WX.ret (rs := [.tmp 0]) [.pointer (some ⟨b1, 0, none⟩)] (.pointer (some ⟨b1, 0, none⟩)) ⟨(by kernel_rfl), trivial⟩ (k := ?_)
  exact ⟨_, z6, rfl, ht7, K⟩

set_option maxRecDepth 100000 in
set_option maxHeartbeats 4000000 in
theorem cMore_c {b : Nat} {l : List UInt8} {w : World} (hb : TabC b (.int .u32 0) (.int .i32 0) (.int .u32 0) (tabF 0) w) (hm : l.length ≤ 1000000) : Calls Tryz.prog 80 #[.pointer (some ⟨b, 0, none⟩), .int .u32 0, .string ⟨l.toArray⟩] w fun e w' => e = .returned (.int .u32 ((crc l : Nat) : Int)) ∧ Keeps (fun k => k = b) w w' := by
  have K : Keeps (fun k => k = b) w w := Keeps.refl _ w
  refine Calls.start Tryz.func80 rfl (by kernel_rfl) ?_
  refine WC.seq ?_
  refine WC.region ?_
  refine WL.op (d := 6) (.int .u32 0) (k := ?_)
  refine WL.nil ?_
  refine WX.seqN ?_
  refine WC.seq ?_
  refine WC.seq ?_
  refine WC.region ?_
  refine WL.op (d := 9) (.pointer (some ⟨b, 0, none⟩)) (k := ?_)
  refine WL.op (d := 10) (.bool false) (k := ?_)
  refine WL.nil ?_
  refine WX.seqN ?_
  refine WC.condF (k := ?_)
  refine WC.skip ?_
  refine WX.seqN ?_
  refine WC.seq ?_
  refine WC.region ?_
  refine WL.op (d := 11) (.pointer (some ⟨b, 0, none⟩)) (k := ?_)
  refine WL.op (d := 12) (.pointer (some ⟨b, 0, none⟩)) (k := ?_)
  refine WL.op (d := 13) (.pointer (some ⟨b, 0, none⟩)) (k := ?_)
  refine WL.op (d := 14) (.pointer (some ⟨b, 0, none⟩)) (k := ?_)
  refine WL.op (d := 15) (.func (.func 96) #[.pointer (some ⟨b, 0, none⟩)] #[]) (k := ?_)
  refine WL.callG (d := 16) (f := 95) (args := #[.pointer (some ⟨b, 0, none⟩), .func (.func 96) #[.pointer (some ⟨b, 0, none⟩)] #[]]) (onceDo_c hb) (k := fun e_ w1 h_ => ?_)
  obtain ⟨rfl, ht2, k3⟩ := h_
  refine ⟨_, rfl, ?_⟩
  replace K := K.trans' k3 (fun i hi e => e)
  clear hb
  refine WL.nil ?_
  refine WX.seqN ?_
  refine WC.seq ?_
  refine WC.region ?_
  refine WL.op (d := 17) (.int .u32 0) (k := ?_)
  refine WL.op (d := 18) (.int .u32 4294967295) (k := ?_)
  refine WL.op (d := 7) (.int .u32 4294967295) (k := ?_)
  refine WL.nil ?_
  refine WX.seqN ?_
  refine WC.seq ?_
  refine WC.seq ?_
  refine WC.region ?_
  refine WL.op (d := 19) (.string ⟨(l).toArray⟩) (k := ?_)
  refine WL.op (d := 20) (.int .i64 (l.length : Int)) (k := ?_)
  refine WL.op (d := 21) (.int .i64 0) (k := ?_)
  refine WL.nil ?_
  refine WX.seqN ?_
  refine WC.block ?_
  refine WC.loop (ι := Int) (fun (i : Int) => [(0, .pointer (some ⟨b, 0, none⟩)), (1, .int .u32 0), (2, .string ⟨(l).toArray⟩), (6, .int .u32 0), (9, .pointer (some ⟨b, 0, none⟩)), (10, .bool false), (11, .pointer (some ⟨b, 0, none⟩)), (12, .pointer (some ⟨b, 0, none⟩)), (13, .pointer (some ⟨b, 0, none⟩)), (14, .pointer (some ⟨b, 0, none⟩)), (15, .func (.func 96) #[.pointer (some ⟨b, 0, none⟩)] #[]), (17, .int .u32 0), (18, .int .u32 4294967295), (19, .string ⟨(l).toArray⟩), (20, .int .i64 (l.length : Int)), (21, .int .i64 i), (7, .int .u32 ((crcF 4294967295 (List.take i.toNat l) : Nat) : Int))]) (fun (i : Int) (w_ : World) => (Keeps (fun k => k = b) w w_) ∧ (TabC b (.int .u32 1) (.int .i32 0) (.int .u32 0) (tabF 256) w_) ∧ (0 ≤ i) ∧ (i ≤ l.length)) (fun (i : Int) => (l.length - i).toNat) 0 ⟨(by kernel_rfl), (by kernel_rfl), (by kernel_rfl), (by kernel_rfl), (by kernel_rfl), (by kernel_rfl), (by kernel_rfl), (by kernel_rfl), (by kernel_rfl), (by kernel_rfl), (by kernel_rfl), (by kernel_rfl), (by kernel_rfl), (by kernel_rfl), (by kernel_rfl), (by kernel_rfl), (by kernel_rfl), trivial⟩ ⟨K, ht2, Int.le_refl 0, (by omega)⟩ ?_
  rintro i w4 ⟨K, hb5, i0, i1⟩
  have sl_ := crcF_lt (n := 4294967295) (by decide) (List.take i.toNat l)
  refine WC.seq ?_
  refine WC.region ?_
  refine WL.op (d := 22) (.bool (decide (i < (l.length : Int)))) (k := ?_)
  refine WL.nil ?_
  refine WX.seqN ?_
  refine WC.seq ?_
  refine WC.cond (b := decide (i < (l.length : Int))) (ht := fun h6 => ?_) (hf := fun h6 => ?_)
  · have ph6 := of_decide_eq_true h6
    refine WC.skip ?_
    refine WX.seqN ?_
    refine WC.seq ?_
    refine WC.block ?_
    refine WC.seq ?_
    refine WC.region ?_
    refine WL.op (d := 23) (.int .i64 i) (k := ?_)
    refine WL.op (d := 8) (.int .i64 i) (k := ?_)
    refine WL.nil ?_
    refine WX.seqN ?_
    refine WC.quiet (k := ?_)
    refine WQ.op (d := 24) (.pointer (some ⟨b, 0, none⟩)) (k := ?_)
    refine WQ.op (d := 25) (.int .u32 ((crcF 4294967295 (List.take i.toNat l) : Nat) : Int)) (k := ?_)
    have ub7 := u8_lt (UInt8.ofNat ((crcF 4294967295 (List.take i.toNat l)) % 256))
    refine WQ.opE (d := 26) (.int .u8 (IntKind.u8.wrap ((crcF 4294967295 (List.take i.toNat l) : Nat) : Int))) (v := .int .u8 ((UInt8.ofNat ((crcF 4294967295 (List.take i.toNat l)) % 256)).toNat : Int)) (congrArg (Value.int .u8) (byte_nat (crcF 4294967295 (List.take i.toNat l)))) (k := ?_)
    refine WQ.op (d := 27) (.string ⟨(l).toArray⟩) (k := ?_)
    refine WQ.op (d := 28) (.int .i64 i) (k := ?_)
    refine WQ.strAt (T := 9) (l := l) (i := i) (kk := .i64) (d := 29) (by omega) (by first | omega | (simp; omega)) (by kernel_rfl) (by kernel_rfl) (by kernel_rfl) (by kernel_rfl) (by kernel_rfl) ?_
    have ub8 := u8_lt (List.getD l (i).toNat 0)
    refine WQ.bin (d := 30) (v := .int .u8 (bits BinOp.xor IntKind.u8 ((UInt8.ofNat ((crcF 4294967295 (List.take i.toNat l)) % 256)).toNat : Int) ((List.getD l (i).toNat 0).toNat : Int))) (fun _ => bits_run (by decide)) (k := ?_)
    refine WQ.rw (t := 30) (v := .int .u8 ((((UInt8.ofNat ((crcF 4294967295 (List.take i.toNat l)) % 256)).toNat) ^^^ ((List.getD l (i).toNat 0).toNat) : Nat) : Int)) (congrArg (Value.int .u8) (bits_xor8 (a := ((UInt8.ofNat ((crcF 4294967295 (List.take i.toNat l)) % 256)).toNat)) (b := ((List.getD l (i).toNat 0).toNat)) (by omega) (by omega))) (k := ?_)
    have xb9 : ((UInt8.ofNat ((crcF 4294967295 (List.take i.toNat l)) % 256)).toNat) ^^^ ((List.getD l (i).toNat 0).toNat) < 256 := xor_lt (k := 8) (by omega) (by omega)
    refine WQ.op (d := 31) (.pointer (some ⟨b, 0, none⟩)) (k := ?_)
    refine WQ.op (d := 32) (.pointer (some ⟨b, 3, none⟩)) (k := ?_)
    refine WQ.idxA (T := 153) (E := 114) (N := 256) (m := 1) (b := b) (o := 3) (i := ((((UInt8.ofNat ((crcF 4294967295 (List.take i.toNat l)) % 256)).toNat) ^^^ ((List.getD l (i).toNat 0).toNat) : Nat) : Int)) (kk := .u8) (d := 33) (by omega) (by omega) (by kernel_rfl) (by kernel_rfl) (by kernel_rfl) (by kernel_rfl) (by kernel_rfl) (by kernel_rfl) ?_
    have sb10 := stpN_lt (n := ((UInt8.ofNat ((crcF 4294967295 (List.take i.toNat l)) % 256)).toNat) ^^^ ((List.getD l (i).toNat 0).toNat)) (by omega) 8
    refine WQ.load (v := .int .u32 ((List.getD (tabF 256) (((((UInt8.ofNat ((crcF 4294967295 (List.take i.toNat l)) % 256)).toNat) ^^^ ((List.getD l (i).toNat 0).toNat) : Nat) : Int)).toNat 0 : Nat) : Int)) (fun w_ k_ => tab_ld (j := (((((UInt8.ofNat ((crcF 4294967295 (List.take i.toNat l)) % 256)).toNat) ^^^ ((List.getD l (i).toNat 0).toNat) : Nat) : Int)).toNat) (hb5.keeps k_ id) (by omega)) (k := ?_)
    refine WQ.rw (t := 34) (v := .int .u32 ((stpN 8 (((UInt8.ofNat ((crcF 4294967295 (List.take i.toNat l)) % 256)).toNat) ^^^ ((List.getD l (i).toNat 0).toNat)) : Nat) : Int)) (congrArg (Value.int .u32) (tabF_getI (n := ((UInt8.ofNat ((crcF 4294967295 (List.take i.toNat l)) % 256)).toNat) ^^^ ((List.getD l (i).toNat 0).toNat)) (by omega))) (k := ?_)
    refine WQ.op (d := 35) (.int .u32 ((crcF 4294967295 (List.take i.toNat l) : Nat) : Int)) (k := ?_)
    refine WQ.bin (d := 36) (v := .int .u32 (((crcF 4294967295 (List.take i.toNat l) : Nat) : Int) / 256)) (fun _ => shr_run (k := .u32) (yk := .u64) (x := ((crcF 4294967295 (List.take i.toNat l) : Nat) : Int)) (y := 8) (c := 256) (by decide) (by decide) (by decide)) (k := ?_)
    refine WQ.rw (t := 36) (v := .int .u32 (((crcF 4294967295 (List.take i.toNat l)) / 256 : Nat) : Int)) (congrArg (Value.int .u32) (nat_div (crcF 4294967295 (List.take i.toNat l)) 256)) (k := ?_)
    refine WQ.bin (d := 37) (v := .int .u32 (bits BinOp.xor IntKind.u32 ((stpN 8 (((UInt8.ofNat ((crcF 4294967295 (List.take i.toNat l)) % 256)).toNat) ^^^ ((List.getD l (i).toNat 0).toNat)) : Nat) : Int) (((crcF 4294967295 (List.take i.toNat l)) / 256 : Nat) : Int))) (fun _ => bits_run (by decide)) (k := ?_)
    refine WQ.rw (t := 37) (v := .int .u32 (((stpN 8 (((UInt8.ofNat ((crcF 4294967295 (List.take i.toNat l)) % 256)).toNat) ^^^ ((List.getD l (i).toNat 0).toNat))) ^^^ ((crcF 4294967295 (List.take i.toNat l)) / 256) : Nat) : Int)) (congrArg (Value.int .u32) (bits_xor32 (a := (stpN 8 (((UInt8.ofNat ((crcF 4294967295 (List.take i.toNat l)) % 256)).toNat) ^^^ ((List.getD l (i).toNat 0).toNat)))) (b := ((crcF 4294967295 (List.take i.toNat l)) / 256)) (by omega) (by omega))) (k := ?_)
    have xb11 : (stpN 8 (((UInt8.ofNat ((crcF 4294967295 (List.take i.toNat l)) % 256)).toNat) ^^^ ((List.getD l (i).toNat 0).toNat))) ^^^ ((crcF 4294967295 (List.take i.toNat l)) / 256) < 4294967296 := xor_lt (k := 32) (by omega) (by omega)
    refine WQ.op (d := 7) (.int .u32 (((stpN 8 (((UInt8.ofNat ((crcF 4294967295 (List.take i.toNat l)) % 256)).toNat) ^^^ ((List.getD l (i).toNat 0).toNat))) ^^^ ((crcF 4294967295 (List.take i.toNat l)) / 256) : Nat) : Int)) (k := ?_)
    refine WQ.nilX (fun w12 k13 => ?_)
    replace hb5 := hb5.keeps k13 id
    replace K := K.trans (k13.any _)
    refine WX.blockN ?_
    refine WX.seqN ?_
    refine WC.region ?_
    refine WL.opE (d := 38) (.int .i64 (IntKind.i64.wrap (i + 1))) (v := .int .i64 (i + 1)) (congrArg (Value.int .i64) (IntWalk.i64_in _ (by omega))) (k := ?_)
    refine WL.op (d := 21) (.int .i64 (i + 1)) (k := ?_)
    refine WL.nil ?_
    refine WX.rw (t := 7) (v := .int .u32 ((crcF 4294967295 (List.take (i + 1).toNat l) : Nat) : Int)) (congrArg (fun n : Nat => Value.int .u32 (n : Int)) ((upd_byte8 _ _).trans (crcU_succ i0 (by omega)))) (k := ?_)
    refine WX.round (i + 1) (by show (l.length - (i + 1)).toNat < (l.length - i).toNat; omega) ⟨(by kernel_rfl), (by kernel_rfl), (by kernel_rfl), (by kernel_rfl), (by kernel_rfl), (by kernel_rfl), (by kernel_rfl), (by kernel_rfl), (by kernel_rfl), (by kernel_rfl), (by kernel_rfl), (by kernel_rfl), (by kernel_rfl), (by kernel_rfl), (by kernel_rfl), (by kernel_rfl), (by kernel_rfl), trivial⟩ ⟨K, hb5, (by omega), (by omega)⟩
  · have ph6 := of_decide_eq_false h6
    refine WC.exit ?_
    refine WX.seqE ?_
    refine WX.seqE ?_
    refine WX.blockE ?_
    refine WX.seqN ?_
    refine WC.seq ?_
    refine WC.region ?_
    refine WL.op (d := 39) (.int .u32 ((crcF 4294967295 (List.take i.toNat l) : Nat) : Int)) (k := ?_)
    refine WL.opE (d := 40) (.int .u32 (bits BinOp.xor IntKind.u32 4294967295 ((crcF 4294967295 (List.take i.toNat l) : Nat) : Int))) (v := .int .u32 ((4294967295 - (crcF 4294967295 (List.take i.toNat l)) : Nat) : Int)) (congrArg (Value.int .u32) (not32 (by omega))) (k := ?_)
    refine WL.op (d := 6) (.int .u32 ((4294967295 - (crcF 4294967295 (List.take i.toNat l)) : Nat) : Int)) (k := ?_)
    refine WL.nil ?_
    refine WX.seqN ?_
    refine WC.ret ?_
    refine WX.ret (rs := [.tmp 6]) [.int .u32 ((4294967295 - (crcF 4294967295 (List.take i.toNat l)) : Nat) : Int)] (.int .u32 ((4294967295 - (crcF 4294967295 (List.take i.toNat l)) : Nat) : Int)) ⟨(by kernel_rfl), trivial⟩ (k := ?_)
    have e_ : List.take i.toNat l = l := List.take_of_length_le (by omega)
    exact ⟨by rw [e_]; rfl, K⟩

set_option maxRecDepth 100000 in
set_option maxHeartbeats 4000000 in
theorem cSum_c {b : Nat} {l : List UInt8} {w : World} (hb : TabC b (.int .u32 0) (.int .i32 0) (.int .u32 0) (tabF 0) w) (hm : l.length ≤ 1000000) : Calls Tryz.prog 66 #[.pointer (some ⟨b, 0, none⟩), .string ⟨l.toArray⟩] w fun e w' => e = .returned (.int .u32 ((crc l : Nat) : Int)) ∧ Keeps (fun k => k = b) w w' := by
  have K : Keeps (fun k => k = b) w w := Keeps.refl _ w
  refine Calls.start Tryz.func66 rfl (by kernel_rfl) ?_
  refine WC.seq ?_
  refine WC.region ?_
  refine WL.op (d := 4) (.int .u32 0) (k := ?_)
  refine WL.nil ?_
  refine WX.seqN ?_
  refine WC.seq ?_
  refine WC.region ?_
  refine WL.op (d := 5) (.pointer (some ⟨b, 0, none⟩)) (k := ?_)
  refine WL.op (d := 6) (.string ⟨(l).toArray⟩) (k := ?_)
  refine WL.callG (d := 7) (f := 80) (args := #[.pointer (some ⟨b, 0, none⟩), .int .u32 0, .string ⟨(l).toArray⟩]) (cMore_c (l := l) hb (by show List.length l ≤ _; first | omega | (simp; done) | (simp; omega))) (k := fun e_ w1 h_ => ?_)
  obtain ⟨rfl, k2⟩ := h_
  refine ⟨_, rfl, ?_⟩
  replace K := K.trans' k2 (fun i hi e => e)
  clear hb
  have cl3 := crc_lt l
  refine WL.op (d := 4) (.int .u32 ((crc l : Nat) : Int)) (k := ?_)
  refine WL.nil ?_
  refine WX.seqN ?_
  refine WC.ret ?_
  refine WX.ret (rs := [.tmp 4]) [.int .u32 ((crc l : Nat) : Int)] (.int .u32 ((crc l : Nat) : Int)) ⟨(by kernel_rfl), trivial⟩ (k := ?_)
  exact ⟨rfl, K⟩

set_option maxRecDepth 100000 in
set_option maxHeartbeats 4000000 in
theorem cRight_c {b : Nat} {l : List UInt8} {w : World} {x : Nat} (hb : TabC b (.int .u32 0) (.int .i32 0) (.int .u32 0) (tabF 0) w) (hm : l.length ≤ 1000000) : Calls Tryz.prog 72 #[.pointer (some ⟨b, 0, none⟩), .string ⟨l.toArray⟩, .int .u32 (x : Int)] w fun e w' => e = .returned (.bool (((crc l : Nat) : Int) == (x : Int))) ∧ Keeps (fun k => k = b) w w' := by
  have K : Keeps (fun k => k = b) w w := Keeps.refl _ w
  refine Calls.start Tryz.func72 rfl (by kernel_rfl) ?_
  refine WC.seq ?_
  refine WC.region ?_
  refine WL.op (d := 6) (.bool false) (k := ?_)
  refine WL.nil ?_
  refine WX.seqN ?_
  refine WC.seq ?_
  refine WC.region ?_
  refine WL.op (d := 7) (.pointer (some ⟨b, 0, none⟩)) (k := ?_)
  refine WL.op (d := 8) (.bool true) (k := ?_)
  refine WL.op (d := 9) (.bool true) (k := ?_)
  refine WL.op (d := 10) (.pointer (some ⟨b, 0, none⟩)) (k := ?_)
  refine WL.op (d := 11) (.string ⟨(l).toArray⟩) (k := ?_)
  refine WL.callG (d := 12) (f := 66) (args := #[.pointer (some ⟨b, 0, none⟩), .string ⟨(l).toArray⟩]) (cSum_c (l := l) hb (by show List.length l ≤ _; first | omega | (simp; done) | (simp; omega))) (k := fun e_ w1 h_ => ?_)
  obtain ⟨rfl, k2⟩ := h_
  refine ⟨_, rfl, ?_⟩
  replace K := K.trans' k2 (fun i hi e => e)
  clear hb
  have cl3 := crc_lt l
  refine WL.op (d := 13) (.int .u32 (x : Int)) (k := ?_)
  refine WL.op (d := 14) (.bool (((crc l : Nat) : Int) == (x : Int))) (k := ?_)
  refine WL.op (d := 15) (.bool (((crc l : Nat) : Int) == (x : Int))) (k := ?_)
  refine WL.op (d := 6) (.bool (((crc l : Nat) : Int) == (x : Int))) (k := ?_)
  refine WL.nil ?_
  refine WX.seqN ?_
  refine WC.ret ?_
  refine WX.ret (rs := [.tmp 6]) [.bool (((crc l : Nat) : Int) == (x : Int))] (.bool (((crc l : Nat) : Int) == (x : Int))) ⟨(by kernel_rfl), trivial⟩ (k := ?_)
  exact ⟨rfl, K⟩

set_option maxRecDepth 100000 in
set_option maxHeartbeats 4000000 in
theorem trimRB_c {l : List UInt8} (c : UInt8) (hm : l.length ≤ 1000000) (w : World) : Calls Tryz.prog 87 #[.string ⟨l.toArray⟩, .int .u8 (c.toNat : Int)] w fun e w' => ∃ n, n ≤ l.length ∧ e = .returned (.string ⟨(l.take n).toArray⟩) ∧ (∀ x ∈ l.drop n, x = c) ∧ (n = 0 ∨ ¬ l.getD (n - 1) 0 = c) ∧ Adds w w' := by
  have K : Keeps (fun _ => False) w w := Keeps.refl _ w
  refine Calls.start Tryz.func87 rfl (by kernel_rfl) ?_
  refine WC.seq ?_
  refine WC.region ?_
  refine WL.op (d := 4) (.string ⟨#[]⟩) (k := ?_)
  refine WL.nil ?_
  refine WX.seqN ?_
  refine WC.seq ?_
  refine WC.block ?_
  refine WC.rw (t := 0) (v := .string ⟨(List.take l.length l).toArray⟩) (congrArg (fun l : List UInt8 => Value.string ⟨l.toArray⟩) (show l = List.take l.length l by simp)) (k := ?_)
  refine WC.loop (ι := Nat) (fun (n : Nat) => [(1, .int .u8 (c.toNat : Int)), (4, .string ⟨#[]⟩), (0, .string ⟨(List.take n l).toArray⟩)]) (fun (n : Nat) (w_ : World) => (Keeps (fun _ => False) w w_) ∧ (n ≤ l.length) ∧ (∀ x ∈ l.drop n, x = c)) (fun (n : Nat) => n) l.length ⟨(by kernel_rfl), (by kernel_rfl), (by kernel_rfl), trivial⟩ ⟨K, (by omega), (by simp)⟩ ?_
  rintro n w1 ⟨K, i1, ic⟩
  have ll_ : List.length (List.take n l) = n := by first | (simp; done) | (simp; omega)
  refine WC.seq ?_
  refine WC.seq ?_
  refine WC.region ?_
  refine WL.op (d := 5) (.string ⟨(List.take n l).toArray⟩) (k := ?_)
  refine WL.op (d := 6) (.int .i64 ((List.take n l).length : Int)) (k := ?_)
  refine WL.op (d := 7) (.bool (decide (((List.take n l).length : Int) > 0))) (k := ?_)
  refine WL.op (d := 8) (.bool (decide (((List.take n l).length : Int) > 0))) (k := ?_)
  refine bsplit (decide (((List.take n l).length : Int) > 0)) (fun h2 => ?_) (fun h2 => ?_)
  · have ph2 := of_decide_eq_true h2
    refine WL.rw (t := 8) (v := .bool true) (congrArg Value.bool h2) (k := ?_)
    refine WL.op (d := 9) (.string ⟨(List.take n l).toArray⟩) (k := ?_)
    refine WL.op (d := 10) (.string ⟨(List.take n l).toArray⟩) (k := ?_)
    refine WL.op (d := 11) (.int .i64 ((List.take n l).length : Int)) (k := ?_)
    refine WL.opE (d := 12) (.int .i64 (IntKind.i64.wrap (((List.take n l).length : Int) - 1))) (v := .int .i64 (((List.take n l).length : Int) - 1)) (congrArg (Value.int .i64) (IntWalk.i64_in _ (by omega))) (k := ?_)
    refine WL.strAt (T := 9) (l := List.take n l) (i := ((List.take n l).length : Int) - 1) (kk := .i64) (d := 13) (by omega) (by first | omega | (simp; omega)) (by kernel_rfl) (by kernel_rfl) (by kernel_rfl) (by kernel_rfl) (by kernel_rfl) ?_
    have ub3 := u8_lt (List.getD (List.take n l) (((List.take n l).length : Int) - 1).toNat 0)
    refine WL.op (d := 14) (.int .u8 (c.toNat : Int)) (k := ?_)
    refine WL.op (d := 15) (.bool (((List.getD (List.take n l) (((List.take n l).length : Int) - 1).toNat 0).toNat : Int) == (c.toNat : Int))) (k := ?_)
    refine WL.op (d := 16) (.bool (((List.getD (List.take n l) (((List.take n l).length : Int) - 1).toNat 0).toNat : Int) == (c.toNat : Int))) (k := ?_)
    refine WL.nil ?_
    refine WX.seqN ?_
    refine WC.cond (b := ((List.getD (List.take n l) (((List.take n l).length : Int) - 1).toNat 0).toNat : Int) == (c.toNat : Int)) (ht := fun h4 => ?_) (hf := fun h4 => ?_)
    · have ph4 := eq_of_beq h4
      refine WC.skip ?_
      refine WX.seqN ?_
      refine WC.block ?_
      refine WC.region ?_
      refine WL.op (d := 17) (.string ⟨(List.take n l).toArray⟩) (k := ?_)
      refine WL.op (d := 18) (.string ⟨(List.take n l).toArray⟩) (k := ?_)
      refine WL.op (d := 19) (.int .i64 ((List.take n l).length : Int)) (k := ?_)
      refine WL.opE (d := 20) (.int .i64 (IntKind.i64.wrap (((List.take n l).length : Int) - 1))) (v := .int .i64 (((List.take n l).length : Int) - 1)) (congrArg (Value.int .i64) (IntWalk.i64_in _ (by omega))) (k := ?_)
      refine WL.cut (d := 21) (vx := .string ⟨(List.take n l).toArray⟩) (lo' := none) (hi' := (some (.int .i64 (((List.take n l).length : Int) - 1)))) (mx' := none) (v := .string ⟨(List.take ((((List.take n l).length : Int) - 1).toNat) (List.take n l)).toArray⟩) (run_cut (P := Tryz.prog) (w := w1) (lo := none) (hi := (some (.int .i64 (((List.take n l).length : Int) - 1)))) (T := 9) (a := 0) (b := (((List.take n l).length : Int) - 1).toNat) (l := (List.take n l)) (by kernel_rfl) (.inl ⟨rfl, rfl⟩) (.inr ⟨_, _, rfl, by omega⟩) (by first | omega | (simp; omega)) (by first | omega | (simp; omega))) (k := ?_)
      refine WL.op (d := 0) (.string ⟨(List.take ((((List.take n l).length : Int) - 1).toNat) (List.take n l)).toArray⟩) (k := ?_)
      refine WL.nil ?_
      refine WX.blockN ?_
      refine WX.rw (t := 0) (v := .string ⟨(List.take (n - 1) l).toArray⟩) (congrArg (fun l : List UInt8 => Value.string ⟨l.toArray⟩) (take_tr (by omega))) (k := ?_)
      refine WX.round (n - 1) (by show (n - 1) < n; omega) ⟨(by kernel_rfl), (by kernel_rfl), (by kernel_rfl), trivial⟩ ⟨K, (by omega), (trimR_step ic (by omega) i1 (trimR_at i1 (by omega) ph4))⟩
    · have ph4 := ne_of_beq_false h4
      refine WC.exit ?_
      refine WX.seqE ?_
      refine WX.seqE ?_
      refine WX.blockE ?_
      refine WX.seqN ?_
      refine WC.seq ?_
      refine WC.region ?_
      refine WL.op (d := 22) (.string ⟨(List.take n l).toArray⟩) (k := ?_)
      refine WL.op (d := 4) (.string ⟨(List.take n l).toArray⟩) (k := ?_)
      refine WL.nil ?_
      refine WX.seqN ?_
      refine WC.ret ?_
      refine WX.ret (rs := [.tmp 4]) [.string ⟨(List.take n l).toArray⟩] (.string ⟨(List.take n l).toArray⟩) ⟨(by kernel_rfl), trivial⟩ (k := ?_)
      exact ⟨n, i1, rfl, ic, .inr (fun e => ph4 (trimR_ta i1 (by omega) e)), K⟩
  · have ph2 := of_decide_eq_false h2
    refine WL.rw (t := 8) (v := .bool false) (congrArg Value.bool h2) (k := ?_)
    refine WL.skip (d := 9) (k := ?_)
    refine WL.skip (d := 10) (k := ?_)
    refine WL.skip (d := 11) (k := ?_)
    refine WL.skip (d := 12) (k := ?_)
    refine WL.skip (d := 13) (k := ?_)
    refine WL.skip (d := 14) (k := ?_)
    refine WL.skip (d := 15) (k := ?_)
    refine WL.op (d := 16) (.bool false) (k := ?_)
    refine WL.nil ?_
    refine WX.seqN ?_
    refine WC.condF (k := ?_)
    refine WC.exit ?_
    refine WX.seqE ?_
    refine WX.seqE ?_
    refine WX.blockE ?_
    refine WX.seqN ?_
    refine WC.seq ?_
    refine WC.region ?_
    refine WL.op (d := 22) (.string ⟨(List.take n l).toArray⟩) (k := ?_)
    refine WL.op (d := 4) (.string ⟨(List.take n l).toArray⟩) (k := ?_)
    refine WL.nil ?_
    refine WX.seqN ?_
    refine WC.ret ?_
    refine WX.ret (rs := [.tmp 4]) [.string ⟨(List.take n l).toArray⟩] (.string ⟨(List.take n l).toArray⟩) ⟨(by kernel_rfl), trivial⟩ (k := ?_)
    exact ⟨n, i1, rfl, ic, .inl (by omega), K⟩

set_option maxRecDepth 100000 in
set_option maxHeartbeats 4000000 in
theorem trimLB_c {l : List UInt8} (c : UInt8) (hm : l.length ≤ 1000000) (w : World) : Calls Tryz.prog 86 #[.string ⟨l.toArray⟩, .int .u8 (c.toNat : Int)] w fun e w' => ∃ n, n ≤ l.length ∧ e = .returned (.string ⟨(l.drop n).toArray⟩) ∧ (∀ x ∈ l.take n, x = c) ∧ (n = l.length ∨ ¬ (l.drop n).getD 0 0 = c) ∧ Adds w w' := by
  have K : Keeps (fun _ => False) w w := Keeps.refl _ w
  refine Calls.start Tryz.func86 rfl (by kernel_rfl) ?_
  refine WC.seq ?_
  refine WC.region ?_
  refine WL.op (d := 4) (.string ⟨#[]⟩) (k := ?_)
  refine WL.nil ?_
  refine WX.seqN ?_
  refine WC.seq ?_
  refine WC.block ?_
  refine WC.rw (t := 0) (v := .string ⟨(List.drop 0 l).toArray⟩) (congrArg (fun l : List UInt8 => Value.string ⟨l.toArray⟩) (show l = List.drop 0 l by simp)) (k := ?_)
  refine WC.loop (ι := Nat) (fun (n : Nat) => [(1, .int .u8 (c.toNat : Int)), (4, .string ⟨#[]⟩), (0, .string ⟨(List.drop n l).toArray⟩)]) (fun (n : Nat) (w_ : World) => (Keeps (fun _ => False) w w_) ∧ (n ≤ l.length) ∧ (∀ x ∈ l.take n, x = c)) (fun (n : Nat) => (l.length - n)) 0 ⟨(by kernel_rfl), (by kernel_rfl), (by kernel_rfl), trivial⟩ ⟨K, (by omega), (by simp)⟩ ?_
  rintro n w1 ⟨K, i1, ic⟩
  have ll_ : List.length (List.drop n l) = l.length - n := by first | (simp; done) | (simp; omega)
  refine WC.seq ?_
  refine WC.seq ?_
  refine WC.region ?_
  refine WL.op (d := 5) (.string ⟨(List.drop n l).toArray⟩) (k := ?_)
  refine WL.op (d := 6) (.int .i64 ((List.drop n l).length : Int)) (k := ?_)
  refine WL.op (d := 7) (.bool (decide (((List.drop n l).length : Int) > 0))) (k := ?_)
  refine WL.op (d := 8) (.bool (decide (((List.drop n l).length : Int) > 0))) (k := ?_)
  refine bsplit (decide (((List.drop n l).length : Int) > 0)) (fun h2 => ?_) (fun h2 => ?_)
  · have ph2 := of_decide_eq_true h2
    refine WL.rw (t := 8) (v := .bool true) (congrArg Value.bool h2) (k := ?_)
    refine WL.op (d := 9) (.string ⟨(List.drop n l).toArray⟩) (k := ?_)
    refine WL.strAt (T := 9) (l := List.drop n l) (i := 0) (kk := .i64) (d := 10) (by omega) (by first | omega | (simp; omega)) (by kernel_rfl) (by kernel_rfl) (by kernel_rfl) (by kernel_rfl) (by kernel_rfl) ?_
    have ub3 := u8_lt (List.getD (List.drop n l) (0 : Int).toNat 0)
    refine WL.op (d := 11) (.int .u8 (c.toNat : Int)) (k := ?_)
    refine WL.op (d := 12) (.bool (((List.getD (List.drop n l) (0 : Int).toNat 0).toNat : Int) == (c.toNat : Int))) (k := ?_)
    refine WL.op (d := 13) (.bool (((List.getD (List.drop n l) (0 : Int).toNat 0).toNat : Int) == (c.toNat : Int))) (k := ?_)
    refine WL.nil ?_
    refine WX.seqN ?_
    refine WC.cond (b := ((List.getD (List.drop n l) (0 : Int).toNat 0).toNat : Int) == (c.toNat : Int)) (ht := fun h4 => ?_) (hf := fun h4 => ?_)
    · have ph4 := eq_of_beq h4
      refine WC.skip ?_
      refine WX.seqN ?_
      refine WC.block ?_
      refine WC.region ?_
      refine WL.op (d := 14) (.string ⟨(List.drop n l).toArray⟩) (k := ?_)
      refine WL.cut (d := 15) (vx := .string ⟨(List.drop n l).toArray⟩) (lo' := (some (.int .i64 1))) (hi' := none) (mx' := none) (v := .string ⟨(List.drop 1 (List.drop n l)).toArray⟩) ((by have h_ := run_cut (P := Tryz.prog) (w := w1) (lo := (some (.int .i64 1))) (hi := none) (T := 9) (a := 1) (b := (List.drop n l).length) (l := (List.drop n l)) (by kernel_rfl) (.inr ⟨_, _, rfl, by omega⟩) (.inl ⟨rfl, rfl⟩) (by first | omega | (simp; omega)) (by first | omega | (simp; omega)); rw [List.take_length] at h_; exact h_)) (k := ?_)
      refine WL.op (d := 0) (.string ⟨(List.drop 1 (List.drop n l)).toArray⟩) (k := ?_)
      refine WL.nil ?_
      refine WX.blockN ?_
      refine WX.rw (t := 0) (v := .string ⟨(List.drop (n + 1) l).toArray⟩) (congrArg (fun l : List UInt8 => Value.string ⟨l.toArray⟩) (drop_tr n l)) (k := ?_)
      refine WX.round (n + 1) (by show (l.length - (n + 1)) < (l.length - n); omega) ⟨(by kernel_rfl), (by kernel_rfl), (by kernel_rfl), trivial⟩ ⟨K, (by omega), (trimL_step ic (by omega) (trimL_at ph4))⟩
    · have ph4 := ne_of_beq_false h4
      refine WC.exit ?_
      refine WX.seqE ?_
      refine WX.seqE ?_
      refine WX.blockE ?_
      refine WX.seqN ?_
      refine WC.seq ?_
      refine WC.region ?_
      refine WL.op (d := 16) (.string ⟨(List.drop n l).toArray⟩) (k := ?_)
      refine WL.op (d := 4) (.string ⟨(List.drop n l).toArray⟩) (k := ?_)
      refine WL.nil ?_
      refine WX.seqN ?_
      refine WC.ret ?_
      refine WX.ret (rs := [.tmp 4]) [.string ⟨(List.drop n l).toArray⟩] (.string ⟨(List.drop n l).toArray⟩) ⟨(by kernel_rfl), trivial⟩ (k := ?_)
      exact ⟨n, i1, rfl, ic, .inr (fun e => ph4 (trimL_ta e)), K⟩
  · have ph2 := of_decide_eq_false h2
    refine WL.rw (t := 8) (v := .bool false) (congrArg Value.bool h2) (k := ?_)
    refine WL.skip (d := 9) (k := ?_)
    refine WL.skip (d := 10) (k := ?_)
    refine WL.skip (d := 11) (k := ?_)
    refine WL.skip (d := 12) (k := ?_)
    refine WL.op (d := 13) (.bool false) (k := ?_)
    refine WL.nil ?_
    refine WX.seqN ?_
    refine WC.condF (k := ?_)
    refine WC.exit ?_
    refine WX.seqE ?_
    refine WX.seqE ?_
    refine WX.blockE ?_
    refine WX.seqN ?_
    refine WC.seq ?_
    refine WC.region ?_
    refine WL.op (d := 16) (.string ⟨(List.drop n l).toArray⟩) (k := ?_)
    refine WL.op (d := 4) (.string ⟨(List.drop n l).toArray⟩) (k := ?_)
    refine WL.nil ?_
    refine WX.seqN ?_
    refine WC.ret ?_
    refine WX.ret (rs := [.tmp 4]) [.string ⟨(List.drop n l).toArray⟩] (.string ⟨(List.drop n l).toArray⟩) ⟨(by kernel_rfl), trivial⟩ (k := ?_)
    exact ⟨n, i1, rfl, ic, .inl (by omega), K⟩

end Go.Proofs.YtdoenmokahbeaaaGreatDoor
