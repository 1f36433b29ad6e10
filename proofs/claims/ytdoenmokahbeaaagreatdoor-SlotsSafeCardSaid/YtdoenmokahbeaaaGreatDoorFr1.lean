/- Sums: their bytes; the document's; a table is filled. -/
import Derived.Test.YtdoenmokahbeaaaGreatDoorCr2
namespace Go.Proofs.YtdoenmokahbeaaaGreatDoor
open Go.RowKit
set_option linter.unusedVariables false
set_option linter.unusedSimpArgs false

set_option maxRecDepth 100000 in
set_option maxHeartbeats 4000000 in
theorem cBytes_c {n : Nat} (hn : n < 4294967296) (w : World) : Calls Tryz.prog 68 #[.int .u32 (n : Int)] w fun e w' => e = .returned (.string ⟨(be 4 n).toArray⟩) ∧ Adds w w' := by
  have K : Keeps (fun _ => False) w w := Keeps.refl _ w
  refine Calls.start Tryz.func68 rfl (by kernel_rfl) ?_
  refine WC.seq ?_
  refine WC.region ?_
  refine WL.op (d := 2) (.string ⟨#[]⟩) (k := ?_)
  refine WL.nil ?_
  refine WX.seqN ?_
  refine WC.seq ?_
  refine WC.region ?_
  refine WL.op (d := 3) (.int .u32 (n : Int)) (k := ?_)
  refine WL.bin (d := 4) (v := .int .u32 ((n : Int) / 16777216)) (shr_run (k := .u32) (yk := .u64) (x := (n : Int)) (y := 24) (c := 16777216) (by decide) (by decide) (by decide)) (k := ?_)
  refine WL.rw (t := 4) (v := .int .u32 ((n / 16777216 : Nat) : Int)) (congrArg (Value.int .u32) (nat_div n 16777216)) (k := ?_)
  have ub1 := u8_lt (UInt8.ofNat ((n / 16777216) % 256))
  refine WL.opE (d := 5) (.int .u8 (IntKind.u8.wrap ((n / 16777216 : Nat) : Int))) (v := .int .u8 ((UInt8.ofNat ((n / 16777216) % 256)).toNat : Int)) (congrArg (Value.int .u8) (byte_nat (n / 16777216))) (k := ?_)
  refine WL.op (d := 6) (.int .u32 (n : Int)) (k := ?_)
  refine WL.bin (d := 7) (v := .int .u32 ((n : Int) / 65536)) (shr_run (k := .u32) (yk := .u64) (x := (n : Int)) (y := 16) (c := 65536) (by decide) (by decide) (by decide)) (k := ?_)
  refine WL.rw (t := 7) (v := .int .u32 ((n / 65536 : Nat) : Int)) (congrArg (Value.int .u32) (nat_div n 65536)) (k := ?_)
  have ub2 := u8_lt (UInt8.ofNat ((n / 65536) % 256))
  refine WL.opE (d := 8) (.int .u8 (IntKind.u8.wrap ((n / 65536 : Nat) : Int))) (v := .int .u8 ((UInt8.ofNat ((n / 65536) % 256)).toNat : Int)) (congrArg (Value.int .u8) (byte_nat (n / 65536))) (k := ?_)
  refine WL.op (d := 9) (.int .u32 (n : Int)) (k := ?_)
  refine WL.bin (d := 10) (v := .int .u32 ((n : Int) / 256)) (shr_run (k := .u32) (yk := .u64) (x := (n : Int)) (y := 8) (c := 256) (by decide) (by decide) (by decide)) (k := ?_)
  refine WL.rw (t := 10) (v := .int .u32 ((n / 256 : Nat) : Int)) (congrArg (Value.int .u32) (nat_div n 256)) (k := ?_)
  have ub3 := u8_lt (UInt8.ofNat ((n / 256) % 256))
  refine WL.opE (d := 11) (.int .u8 (IntKind.u8.wrap ((n / 256 : Nat) : Int))) (v := .int .u8 ((UInt8.ofNat ((n / 256) % 256)).toNat : Int)) (congrArg (Value.int .u8) (byte_nat (n / 256))) (k := ?_)
  refine WL.op (d := 12) (.int .u32 (n : Int)) (k := ?_)
  have ub4 := u8_lt (UInt8.ofNat ((n) % 256))
  refine WL.opE (d := 13) (.int .u8 (IntKind.u8.wrap (n : Int))) (v := .int .u8 ((UInt8.ofNat ((n) % 256)).toNat : Int)) (congrArg (Value.int .u8) (byte_nat (n))) (k := ?_)
  refine WL.newF (d := 14) (T := 5) #[.int .u8 ((UInt8.ofNat ((n / 16777216) % 256)).toNat : Int), .int .u8 ((UInt8.ofNat ((n / 65536) % 256)).toNat : Int), .int .u8 ((UInt8.ofNat ((n / 256) % 256)).toNat : Int), .int .u8 ((UInt8.ofNat ((n) % 256)).toNat : Int)] (fun b => .slice (some ⟨b, 0, none⟩) 4 4) (k := fun b5 w6 g7 hb8 k9 => ?_)
  have z10 := Nat.le_trans K.size g7
  replace K := K.trans (k9.any _)
  refine WL.conv (d := 15) (vx := .slice (some ⟨b5, 0, none⟩) 4 4) (v := .string ⟨#[(UInt8.ofNat ((n / 16777216) % 256)), (UInt8.ofNat ((n / 65536) % 256)), (UInt8.ofNat ((n / 256) % 256)), (UInt8.ofNat ((n) % 256))]⟩) (run_ofBytes (T := 87) (S := 9) (E := 5) (l := [(UInt8.ofNat ((n / 16777216) % 256)), (UInt8.ofNat ((n / 65536) % 256)), (UInt8.ofNat ((n / 256) % 256)), (UInt8.ofNat ((n) % 256))]) (by kernel_rfl) (by kernel_rfl) (by kernel_rfl) hb8 rfl (by kernel_rfl)) (k := ?_)
  refine WL.op (d := 2) (.string ⟨#[(UInt8.ofNat ((n / 16777216) % 256)), (UInt8.ofNat ((n / 65536) % 256)), (UInt8.ofNat ((n / 256) % 256)), (UInt8.ofNat ((n) % 256))]⟩) (k := ?_)
  refine WL.nil ?_
  refine WX.seqN ?_
  refine WC.ret ?_
  refine WX.ret (rs := [.tmp 2]) [.string ⟨#[(UInt8.ofNat ((n / 16777216) % 256)), (UInt8.ofNat ((n / 65536) % 256)), (UInt8.ofNat ((n / 256) % 256)), (UInt8.ofNat ((n) % 256))]⟩] (.string ⟨#[(UInt8.ofNat ((n / 16777216) % 256)), (UInt8.ofNat ((n / 65536) % 256)), (UInt8.ofNat ((n / 256) % 256)), (UInt8.ofNat ((n) % 256))]⟩) ⟨(by kernel_rfl), trivial⟩ (k := ?_)
  exact ⟨by rw [be4], K⟩

set_option maxRecDepth 100000 in
set_option maxHeartbeats 4000000 in
theorem u02Bytes_c {n : Nat} (hn : n < 4294967296) (w : World) : Calls Tryz.prog 59 #[.int .u32 (n : Int)] w fun e w' => e = .returned (.string ⟨(be 4 n).toArray⟩) ∧ Adds w w' := by
  have K : Keeps (fun _ => False) w w := Keeps.refl _ w
  refine Calls.start Tryz.func59 rfl (by kernel_rfl) ?_
  refine WC.seq ?_
  refine WC.region ?_
  refine WL.op (d := 2) (.string ⟨#[]⟩) (k := ?_)
  refine WL.nil ?_
  refine WX.seqN ?_
  refine WC.seq ?_
  refine WC.region ?_
  refine WL.op (d := 3) (.int .u32 (n : Int)) (k := ?_)
  refine WL.bin (d := 4) (v := .int .u32 (IntKind.u32.wrap (Int.tdiv (n : Int) 16777216))) (quo_run (by omega)) (k := ?_)
  refine WL.rw (t := 4) (v := .int .u32 ((n / 16777216 : Nat) : Int)) (congrArg (Value.int .u32) (quo32 16777216 (by omega))) (k := ?_)
  have ub1 := u8_lt (UInt8.ofNat ((n / 16777216) % 256))
  refine WL.opE (d := 5) (.int .u8 (IntKind.u8.wrap ((n / 16777216 : Nat) : Int))) (v := .int .u8 ((UInt8.ofNat ((n / 16777216) % 256)).toNat : Int)) (congrArg (Value.int .u8) (byte_nat (n / 16777216))) (k := ?_)
  refine WL.op (d := 6) (.int .u32 (n : Int)) (k := ?_)
  refine WL.bin (d := 7) (v := .int .u32 (IntKind.u32.wrap (Int.tdiv (n : Int) 65536))) (quo_run (by omega)) (k := ?_)
  refine WL.rw (t := 7) (v := .int .u32 ((n / 65536 : Nat) : Int)) (congrArg (Value.int .u32) (quo32 65536 (by omega))) (k := ?_)
  have ub2 := u8_lt (UInt8.ofNat ((n / 65536) % 256))
  refine WL.opE (d := 8) (.int .u8 (IntKind.u8.wrap ((n / 65536 : Nat) : Int))) (v := .int .u8 ((UInt8.ofNat ((n / 65536) % 256)).toNat : Int)) (congrArg (Value.int .u8) (byte_nat (n / 65536))) (k := ?_)
  refine WL.op (d := 9) (.int .u32 (n : Int)) (k := ?_)
  refine WL.bin (d := 10) (v := .int .u32 (IntKind.u32.wrap (Int.tdiv (n : Int) 256))) (quo_run (by omega)) (k := ?_)
  refine WL.rw (t := 10) (v := .int .u32 ((n / 256 : Nat) : Int)) (congrArg (Value.int .u32) (quo32 256 (by omega))) (k := ?_)
  have ub3 := u8_lt (UInt8.ofNat ((n / 256) % 256))
  refine WL.opE (d := 11) (.int .u8 (IntKind.u8.wrap ((n / 256 : Nat) : Int))) (v := .int .u8 ((UInt8.ofNat ((n / 256) % 256)).toNat : Int)) (congrArg (Value.int .u8) (byte_nat (n / 256))) (k := ?_)
  refine WL.op (d := 12) (.int .u32 (n : Int)) (k := ?_)
  have ub4 := u8_lt (UInt8.ofNat ((n) % 256))
  refine WL.opE (d := 13) (.int .u8 (IntKind.u8.wrap (n : Int))) (v := .int .u8 ((UInt8.ofNat ((n) % 256)).toNat : Int)) (congrArg (Value.int .u8) (byte_nat (n))) (k := ?_)
  refine WL.newF (d := 14) (T := 5) #[.int .u8 ((UInt8.ofNat ((n / 16777216) % 256)).toNat : Int), .int .u8 ((UInt8.ofNat ((n / 65536) % 256)).toNat : Int), .int .u8 ((UInt8.ofNat ((n / 256) % 256)).toNat : Int), .int .u8 ((UInt8.ofNat ((n) % 256)).toNat : Int)] (fun b => .slice (some ⟨b, 0, none⟩) 4 4) (k := fun b5 w6 g7 hb8 k9 => ?_)
  have z10 := Nat.le_trans K.size g7
  replace K := K.trans (k9.any _)
  refine WL.conv (d := 15) (vx := .slice (some ⟨b5, 0, none⟩) 4 4) (v := .string ⟨#[(UInt8.ofNat ((n / 16777216) % 256)), (UInt8.ofNat ((n / 65536) % 256)), (UInt8.ofNat ((n / 256) % 256)), (UInt8.ofNat ((n) % 256))]⟩) (run_ofBytes (T := 87) (S := 9) (E := 5) (l := [(UInt8.ofNat ((n / 16777216) % 256)), (UInt8.ofNat ((n / 65536) % 256)), (UInt8.ofNat ((n / 256) % 256)), (UInt8.ofNat ((n) % 256))]) (by kernel_rfl) (by kernel_rfl) (by kernel_rfl) hb8 rfl (by kernel_rfl)) (k := ?_)
  refine WL.op (d := 2) (.string ⟨#[(UInt8.ofNat ((n / 16777216) % 256)), (UInt8.ofNat ((n / 65536) % 256)), (UInt8.ofNat ((n / 256) % 256)), (UInt8.ofNat ((n) % 256))]⟩) (k := ?_)
  refine WL.nil ?_
  refine WX.seqN ?_
  refine WC.ret ?_
  refine WX.ret (rs := [.tmp 2]) [.string ⟨#[(UInt8.ofNat ((n / 16777216) % 256)), (UInt8.ofNat ((n / 65536) % 256)), (UInt8.ofNat ((n / 256) % 256)), (UInt8.ofNat ((n) % 256))]⟩] (.string ⟨#[(UInt8.ofNat ((n / 16777216) % 256)), (UInt8.ofNat ((n / 65536) % 256)), (UInt8.ofNat ((n / 256) % 256)), (UInt8.ofNat ((n) % 256))]⟩) ⟨(by kernel_rfl), trivial⟩ (k := ?_)
  exact ⟨by rw [be4], K⟩

set_option maxRecDepth 100000 in
set_option maxHeartbeats 4000000 in
theorem cRead_c {l : List UInt8} (hl : 4 ≤ l.length) (hm : l.length ≤ 1000000) (w : World) : Calls Tryz.prog 71 #[.string ⟨l.toArray⟩] w fun e w' => e = .returned (.tuple #[.int .u32 ((beval (l.take 4) : Nat) : Int), .bool true]) ∧ Adds w w' := by
  have K : Keeps (fun _ => False) w w := Keeps.refl _ w
  refine Calls.start Tryz.func71 rfl (by kernel_rfl) ?_
  refine WC.seq ?_
  refine WC.region ?_
  refine WL.op (d := 2) (.int .u32 0) (k := ?_)
  refine WL.op (d := 3) (.bool false) (k := ?_)
  refine WL.nil ?_
  refine WX.seqN ?_
  refine WC.seq ?_
  refine WC.seq ?_
  refine WC.region ?_
  refine WL.op (d := 6) (.string ⟨(l).toArray⟩) (k := ?_)
  refine WL.op (d := 7) (.int .i64 (l.length : Int)) (k := ?_)
  refine WL.op (d := 8) (.bool (decide ((l.length : Int) < 4))) (k := ?_)
  refine WL.nil ?_
  refine WX.seqN ?_
  refine WC.cond (b := decide ((l.length : Int) < 4)) (ht := fun h1 => ?_) (hf := fun h1 => ?_)
  · have ph1 := of_decide_eq_true h1
    refine WC.seq ?_
    refine WC.region ?_
    refine WL.op (d := 2) (.int .u32 0) (k := ?_)
    refine WL.op (d := 3) (.bool false) (k := ?_)
    refine WL.nil ?_
    refine WX.seqN ?_
    refine WC.ret ?_
    refine WX.seqR ?_
    refine WX.ret (rs := [.tmp 2, .tmp 3]) [.int .u32 0, .bool false] (.tuple #[.int .u32 0, .bool false]) ⟨(by kernel_rfl), (by kernel_rfl), trivial⟩ (k := ?_)
    exfalso; omega
  · have ph1 := of_decide_eq_false h1
    refine WC.skip ?_
    refine WX.seqN ?_
    refine WC.seq ?_
    refine WC.region ?_
    refine WL.op (d := 4) (.int .u32 0) (k := ?_)
    refine WL.nil ?_
    refine WX.seqN ?_
    refine WC.seq ?_
    refine WC.seq ?_
    refine WC.region ?_
    refine WL.op (d := 9) (.int .i64 0) (k := ?_)
    refine WL.nil ?_
    refine WX.seqN ?_
    refine WC.block ?_
    refine WC.loop (ι := Int) (fun (i : Int) => [(0, .string ⟨(l).toArray⟩), (2, .int .u32 0), (3, .bool false), (6, .string ⟨(l).toArray⟩), (7, .int .i64 (l.length : Int)), (8, .bool (decide ((l.length : Int) < 4))), (9, .int .i64 i), (4, .int .u32 ((beval (List.take i.toNat l) : Nat) : Int))]) (fun (i : Int) (w_ : World) => (Keeps (fun _ => False) w w_) ∧ (0 ≤ i) ∧ (i ≤ 4)) (fun (i : Int) => (4 - i).toNat) 0 ⟨(by kernel_rfl), (by kernel_rfl), (by kernel_rfl), (by kernel_rfl), (by kernel_rfl), (by kernel_rfl), (by kernel_rfl), (by kernel_rfl), trivial⟩ ⟨K, Int.le_refl 0, (by decide)⟩ ?_
    rintro i w2 ⟨K, i0, i1⟩
    refine WC.seq ?_
    refine WC.region ?_
    refine WL.op (d := 10) (.bool (decide (i < 4))) (k := ?_)
    refine WL.nil ?_
    refine WX.seqN ?_
    refine WC.seq ?_
    refine WC.cond (b := decide (i < 4)) (ht := fun h3 => ?_) (hf := fun h3 => ?_)
    · have ph3 := of_decide_eq_true h3
      refine WC.skip ?_
      refine WX.seqN ?_
      refine WC.seq ?_
      refine WC.block ?_
      refine WC.seq ?_
      refine WC.region ?_
      refine WL.op (d := 11) (.int .i64 i) (k := ?_)
      refine WL.op (d := 5) (.int .i64 i) (k := ?_)
      refine WL.nil ?_
      refine WX.seqN ?_
      have bb_ := beval_b24 l (i := i) (by omega)
      refine WC.region ?_
      refine WL.op (d := 12) (.int .u32 ((beval (List.take i.toNat l) : Nat) : Int)) (k := ?_)
      refine WL.bin (d := 13) (v := .int .u32 (IntKind.u32.wrap (((beval (List.take i.toNat l) : Nat) : Int) * 256))) (shl_run (k := .u32) (yk := .u64) (x := ((beval (List.take i.toNat l) : Nat) : Int)) (y := 8) (c := 256) (by decide) (by decide) (by decide)) (k := ?_)
      refine WL.rw (t := 13) (v := .int .u32 (((beval (List.take i.toNat l)) * 256 : Nat) : Int)) (congrArg (Value.int .u32) (shl32 (a := (beval (List.take i.toNat l))) (by omega))) (k := ?_)
      refine WL.op (d := 14) (.string ⟨(l).toArray⟩) (k := ?_)
      refine WL.op (d := 15) (.int .i64 i) (k := ?_)
      refine WL.strAt (T := 9) (l := l) (i := i) (kk := .i64) (d := 16) (by omega) (by first | omega | (simp; omega)) (by kernel_rfl) (by kernel_rfl) (by kernel_rfl) (by kernel_rfl) (by kernel_rfl) ?_
      have ub4 := u8_lt (List.getD l (i).toNat 0)
      refine WL.opE (d := 17) (.int .u32 (IntKind.u32.wrap ((List.getD l (i).toNat 0).toNat : Int))) (v := .int .u32 ((List.getD l (i).toNat 0).toNat : Int)) (congrArg (Value.int .u32) (IntWalk.u32_in _ (by omega))) (k := ?_)
      refine WL.bin (d := 18) (v := .int .u32 (bits BinOp.or IntKind.u32 (((beval (List.take i.toNat l)) * 256 : Nat) : Int) ((List.getD l (i).toNat 0).toNat : Int))) (bits_run (by decide)) (k := ?_)
      refine WL.rw (t := 18) (v := .int .u32 (((beval (List.take i.toNat l)) * 256 + ((List.getD l (i).toNat 0).toNat) : Nat) : Int)) (congrArg (Value.int .u32) (bits_or32 (by omega) (by omega))) (k := ?_)
      refine WL.op (d := 4) (.int .u32 (((beval (List.take i.toNat l)) * 256 + ((List.getD l (i).toNat 0).toNat) : Nat) : Int)) (k := ?_)
      refine WL.nil ?_
      refine WX.blockN ?_
      refine WX.seqN ?_
      refine WC.region ?_
      refine WL.opE (d := 19) (.int .i64 (IntKind.i64.wrap (i + 1))) (v := .int .i64 (i + 1)) (congrArg (Value.int .i64) (IntWalk.i64_in _ (by omega))) (k := ?_)
      refine WL.op (d := 9) (.int .i64 (i + 1)) (k := ?_)
      refine WL.nil ?_
      refine WX.rw (t := 4) (v := .int .u32 ((beval (List.take (i + 1).toNat l) : Nat) : Int)) (congrArg (fun n : Nat => Value.int .u32 (n : Int)) (beU_succ i0 (by omega))) (k := ?_)
      refine WX.round (i + 1) (by show (4 - (i + 1)).toNat < (4 - i).toNat; omega) ⟨(by kernel_rfl), (by kernel_rfl), (by kernel_rfl), (by kernel_rfl), (by kernel_rfl), (by kernel_rfl), (by kernel_rfl), (by kernel_rfl), trivial⟩ ⟨K, (by omega), (by omega)⟩
    · have ph3 := of_decide_eq_false h3
      refine WC.exit ?_
      refine WX.seqE ?_
      refine WX.seqE ?_
      refine WX.blockE ?_
      refine WX.seqN ?_
      refine WC.seq ?_
      refine WC.region ?_
      refine WL.op (d := 20) (.int .u32 ((beval (List.take i.toNat l) : Nat) : Int)) (k := ?_)
      refine WL.op (d := 2) (.int .u32 ((beval (List.take i.toNat l) : Nat) : Int)) (k := ?_)
      refine WL.op (d := 3) (.bool true) (k := ?_)
      refine WL.nil ?_
      refine WX.seqN ?_
      refine WC.ret ?_
      refine WX.ret (rs := [.tmp 2, .tmp 3]) [.int .u32 ((beval (List.take i.toNat l) : Nat) : Int), .bool true] (.tuple #[.int .u32 ((beval (List.take i.toNat l) : Nat) : Int), .bool true]) ⟨(by kernel_rfl), (by kernel_rfl), trivial⟩ (k := ?_)
      obtain rfl : i = 4 := by omega
      exact ⟨rfl, K⟩

set_option maxRecDepth 100000 in
set_option maxHeartbeats 4000000 in
theorem u02more_c {n : Nat} (hn : n < 4294967296) (c : UInt8) (w : World) : Calls Tryz.prog 93 #[.int .u32 (n : Int), .int .u8 (c.toNat : Int)] w fun e w' => e = .returned (.int .u32 ((upd n c : Nat) : Int)) ∧ Adds w w' := by
  have K : Keeps (fun _ => False) w w := Keeps.refl _ w
  have ub_ := u8_lt c
  refine Calls.start Tryz.func93 rfl (by kernel_rfl) ?_
  refine WC.seq ?_
  refine WC.region ?_
  refine WL.op (d := 4) (.int .u32 0) (k := ?_)
  refine WL.nil ?_
  refine WX.seqN ?_
  refine WC.seq ?_
  refine WC.region ?_
  refine WL.op (d := 7) (.int .u32 (n : Int)) (k := ?_)
  refine WL.op (d := 8) (.int .u8 (c.toNat : Int)) (k := ?_)
  refine WL.opE (d := 9) (.int .u32 (IntKind.u32.wrap (c.toNat : Int))) (v := .int .u32 (c.toNat : Int)) (congrArg (Value.int .u32) (IntWalk.u32_in _ (by omega))) (k := ?_)
  refine WL.bin (d := 10) (v := .int .u32 (bits BinOp.xor IntKind.u32 (n : Int) (c.toNat : Int))) (bits_run (by decide)) (k := ?_)
  refine WL.rw (t := 10) (v := .int .u32 ((n ^^^ c.toNat : Nat) : Int)) (congrArg (Value.int .u32) (bits_xor32 (a := n) (b := c.toNat) (by omega) (by omega))) (k := ?_)
  have xb1 : n ^^^ c.toNat < 4294967296 := xor_lt (k := 32) (by omega) (by omega)
  refine WL.op (d := 0) (.int .u32 ((n ^^^ c.toNat : Nat) : Int)) (k := ?_)
  refine WL.nil ?_
  refine WX.seqN ?_
  refine WC.seq ?_
  refine WC.seq ?_
  refine WC.region ?_
  refine WL.op (d := 5) (.int .i64 0) (k := ?_)
  refine WL.nil ?_
  refine WX.seqN ?_
  refine WC.block ?_
  refine WC.loop (ι := Int) (fun (i : Int) => [(1, .int .u8 (c.toNat : Int)), (4, .int .u32 0), (7, .int .u32 (n : Int)), (8, .int .u8 (c.toNat : Int)), (9, .int .u32 (c.toNat : Int)), (10, .int .u32 ((n ^^^ c.toNat : Nat) : Int)), (5, .int .i64 i), (0, .int .u32 ((stpN i.toNat (n ^^^ c.toNat) : Nat) : Int))]) (fun (i : Int) (w_ : World) => (Keeps (fun _ => False) w w_) ∧ (0 ≤ i) ∧ (i ≤ 8)) (fun (i : Int) => (8 - i).toNat) 0 ⟨(by kernel_rfl), (by kernel_rfl), (by kernel_rfl), (by kernel_rfl), (by kernel_rfl), (by kernel_rfl), (by kernel_rfl), (by kernel_rfl), trivial⟩ ⟨K, Int.le_refl 0, (by decide)⟩ ?_
  rintro i w2 ⟨K, i0, i1⟩
  have sl_ := stpN_lt (n := n ^^^ c.toNat) (by omega) i.toNat
  refine WC.seq ?_
  refine WC.seq ?_
  refine WC.region ?_
  refine WL.op (d := 11) (.int .i64 i) (k := ?_)
  refine WL.op (d := 12) (.bool (decide (i < 8))) (k := ?_)
  refine WL.nil ?_
  refine WX.seqN ?_
  refine WC.cond (b := decide (i < 8)) (ht := fun h3 => ?_) (hf := fun h3 => ?_)
  · have ph3 := of_decide_eq_true h3
    refine WC.skip ?_
    refine WX.seqN ?_
    refine WC.seq ?_
    refine WC.block ?_
    refine WC.seq ?_
    refine WC.region ?_
    refine WL.op (d := 15) (.int .u32 ((stpN i.toNat (n ^^^ c.toNat) : Nat) : Int)) (k := ?_)
    refine WL.bin (d := 16) (v := .int .u32 (Int.tmod ((stpN i.toNat (n ^^^ c.toNat) : Nat) : Int) 2)) (rem_run (by omega)) (k := ?_)
    refine WL.rw (t := 16) (v := .int .u32 (((stpN i.toNat (n ^^^ c.toNat)) % 2 : Nat) : Int)) (congrArg (Value.int .u32) (tmod_nat (stpN i.toNat (n ^^^ c.toNat)) 2)) (k := ?_)
    refine WL.op (d := 6) (.int .u32 (((stpN i.toNat (n ^^^ c.toNat)) % 2 : Nat) : Int)) (k := ?_)
    refine WL.nil ?_
    refine WX.seqN ?_
    refine WC.seq ?_
    refine WC.region ?_
    refine WL.op (d := 17) (.int .u32 ((stpN i.toNat (n ^^^ c.toNat) : Nat) : Int)) (k := ?_)
    refine WL.bin (d := 18) (v := .int .u32 (IntKind.u32.wrap (Int.tdiv ((stpN i.toNat (n ^^^ c.toNat) : Nat) : Int) 2))) (quo_run (by omega)) (k := ?_)
    refine WL.rw (t := 18) (v := .int .u32 (((stpN i.toNat (n ^^^ c.toNat)) / 2 : Nat) : Int)) (congrArg (Value.int .u32) (quo32 2 (by omega))) (k := ?_)
    refine WL.op (d := 0) (.int .u32 (((stpN i.toNat (n ^^^ c.toNat)) / 2 : Nat) : Int)) (k := ?_)
    refine WL.nil ?_
    refine WX.seqN ?_
    refine WC.seq ?_
    refine WC.region ?_
    refine WL.op (d := 19) (.int .u32 (((stpN i.toNat (n ^^^ c.toNat)) % 2 : Nat) : Int)) (k := ?_)
    refine WL.op (d := 20) (.bool ((((stpN i.toNat (n ^^^ c.toNat)) % 2 : Nat) : Int) == 1)) (k := ?_)
    refine WL.nil ?_
    refine WX.seqN ?_
    refine WC.cond (b := (((stpN i.toNat (n ^^^ c.toNat)) % 2 : Nat) : Int) == 1) (ht := fun h4 => ?_) (hf := fun h4 => ?_)
    · have ph4 := eq_of_beq h4
      refine WC.region ?_
      refine WL.op (d := 21) (.int .u32 (((stpN i.toNat (n ^^^ c.toNat)) / 2 : Nat) : Int)) (k := ?_)
      refine WL.bin (d := 22) (v := .int .u32 (bits BinOp.xor IntKind.u32 (((stpN i.toNat (n ^^^ c.toNat)) / 2 : Nat) : Int) 3988292384)) (bits_run (by decide)) (k := ?_)
      refine WL.rw (t := 22) (v := .int .u32 ((((stpN i.toNat (n ^^^ c.toNat)) / 2) ^^^ 3988292384 : Nat) : Int)) (congrArg (Value.int .u32) (bits_xor32 (a := ((stpN i.toNat (n ^^^ c.toNat)) / 2)) (b := 3988292384) (by omega) (by omega))) (k := ?_)
      have xb5 : ((stpN i.toNat (n ^^^ c.toNat)) / 2) ^^^ 3988292384 < 4294967296 := xor_lt (k := 32) (by omega) (by omega)
      refine WL.op (d := 0) (.int .u32 ((((stpN i.toNat (n ^^^ c.toNat)) / 2) ^^^ 3988292384 : Nat) : Int)) (k := ?_)
      refine WL.nil ?_
      refine WX.blockN ?_
      refine WX.seqN ?_
      refine WC.region ?_
      refine WL.op (d := 13) (.int .i64 i) (k := ?_)
      refine WL.opE (d := 14) (.int .i64 (IntKind.i64.wrap (i + 1))) (v := .int .i64 (i + 1)) (congrArg (Value.int .i64) (IntWalk.i64_in _ (by omega))) (k := ?_)
      refine WL.op (d := 5) (.int .i64 (i + 1)) (k := ?_)
      refine WL.nil ?_
      refine WX.rw (t := 0) (v := .int .u32 ((stpN (i + 1).toNat (n ^^^ c.toNat) : Nat) : Int)) (congrArg (fun n : Nat => Value.int .u32 (n : Int)) (stpN_odd i0 (by omega))) (k := ?_)
      refine WX.round (i + 1) (by show (8 - (i + 1)).toNat < (8 - i).toNat; omega) ⟨(by kernel_rfl), (by kernel_rfl), (by kernel_rfl), (by kernel_rfl), (by kernel_rfl), (by kernel_rfl), (by kernel_rfl), (by kernel_rfl), trivial⟩ ⟨K, (by omega), (by omega)⟩
    · have ph4 := ne_of_beq_false h4
      refine WC.skip ?_
      refine WX.blockN ?_
      refine WX.seqN ?_
      refine WC.region ?_
      refine WL.op (d := 13) (.int .i64 i) (k := ?_)
      refine WL.opE (d := 14) (.int .i64 (IntKind.i64.wrap (i + 1))) (v := .int .i64 (i + 1)) (congrArg (Value.int .i64) (IntWalk.i64_in _ (by omega))) (k := ?_)
      refine WL.op (d := 5) (.int .i64 (i + 1)) (k := ?_)
      refine WL.nil ?_
      refine WX.rw (t := 0) (v := .int .u32 ((stpN (i + 1).toNat (n ^^^ c.toNat) : Nat) : Int)) (congrArg (fun n : Nat => Value.int .u32 (n : Int)) (stpN_even i0 (by omega))) (k := ?_)
      refine WX.round (i + 1) (by show (8 - (i + 1)).toNat < (8 - i).toNat; omega) ⟨(by kernel_rfl), (by kernel_rfl), (by kernel_rfl), (by kernel_rfl), (by kernel_rfl), (by kernel_rfl), (by kernel_rfl), (by kernel_rfl), trivial⟩ ⟨K, (by omega), (by omega)⟩
  · have ph3 := of_decide_eq_false h3
    refine WC.exit ?_
    refine WX.seqE ?_
    refine WX.seqE ?_
    refine WX.blockE ?_
    refine WX.seqN ?_
    refine WC.seq ?_
    refine WC.region ?_
    refine WL.op (d := 23) (.int .u32 ((stpN i.toNat (n ^^^ c.toNat) : Nat) : Int)) (k := ?_)
    refine WL.op (d := 4) (.int .u32 ((stpN i.toNat (n ^^^ c.toNat) : Nat) : Int)) (k := ?_)
    refine WL.nil ?_
    refine WX.seqN ?_
    refine WC.ret ?_
    refine WX.ret (rs := [.tmp 4]) [.int .u32 ((stpN i.toNat (n ^^^ c.toNat) : Nat) : Int)] (.int .u32 ((stpN i.toNat (n ^^^ c.toNat) : Nat) : Int)) ⟨(by kernel_rfl), trivial⟩ (k := ?_)
    obtain rfl : i = 8 := by omega
    exact ⟨rfl, K⟩

set_option maxRecDepth 100000 in
set_option maxHeartbeats 4000000 in
theorem u02More_c {l : List UInt8} (hm : l.length ≤ 1000000) (w : World) : Calls Tryz.prog 75 #[.int .u32 0, .string ⟨l.toArray⟩] w fun e w' => e = .returned (.int .u32 ((crc l : Nat) : Int)) ∧ Adds w w' := by
  have K : Keeps (fun _ => False) w w := Keeps.refl _ w
  refine Calls.start Tryz.func75 rfl (by kernel_rfl) ?_
  refine WC.seq ?_
  refine WC.region ?_
  refine WL.op (d := 4) (.int .u32 0) (k := ?_)
  refine WL.nil ?_
  refine WX.seqN ?_
  refine WC.seq ?_
  refine WC.region ?_
  refine WL.op (d := 7) (.int .u32 0) (k := ?_)
  refine WL.op (d := 8) (.int .u32 4294967295) (k := ?_)
  refine WL.op (d := 5) (.int .u32 4294967295) (k := ?_)
  refine WL.nil ?_
  refine WX.seqN ?_
  refine WC.seq ?_
  refine WC.seq ?_
  refine WC.region ?_
  refine WL.op (d := 6) (.int .i64 0) (k := ?_)
  refine WL.nil ?_
  refine WX.seqN ?_
  refine WC.block ?_
  refine WC.loop (ι := Int) (fun (i : Int) => [(0, .int .u32 0), (1, .string ⟨(l).toArray⟩), (4, .int .u32 0), (7, .int .u32 0), (8, .int .u32 4294967295), (6, .int .i64 i), (5, .int .u32 ((crcF 4294967295 (List.take i.toNat l) : Nat) : Int))]) (fun (i : Int) (w_ : World) => (Keeps (fun _ => False) w w_) ∧ (0 ≤ i) ∧ (i ≤ l.length)) (fun (i : Int) => (l.length - i).toNat) 0 ⟨(by kernel_rfl), (by kernel_rfl), (by kernel_rfl), (by kernel_rfl), (by kernel_rfl), (by kernel_rfl), (by kernel_rfl), trivial⟩ ⟨K, Int.le_refl 0, (by omega)⟩ ?_
  rintro i w1 ⟨K, i0, i1⟩
  have sl_ := crcF_lt (n := 4294967295) (by decide) (List.take i.toNat l)
  refine WC.seq ?_
  refine WC.seq ?_
  refine WC.region ?_
  refine WL.op (d := 9) (.int .i64 i) (k := ?_)
  refine WL.op (d := 10) (.string ⟨(l).toArray⟩) (k := ?_)
  refine WL.op (d := 11) (.int .i64 (l.length : Int)) (k := ?_)
  refine WL.op (d := 12) (.bool (decide (i < (l.length : Int)))) (k := ?_)
  refine WL.nil ?_
  refine WX.seqN ?_
  refine WC.cond (b := decide (i < (l.length : Int))) (ht := fun h2 => ?_) (hf := fun h2 => ?_)
  · have ph2 := of_decide_eq_true h2
    refine WC.skip ?_
    refine WX.seqN ?_
    refine WC.seq ?_
    refine WC.block ?_
    refine WC.region ?_
    refine WL.op (d := 15) (.int .u32 ((crcF 4294967295 (List.take i.toNat l) : Nat) : Int)) (k := ?_)
    refine WL.op (d := 16) (.string ⟨(l).toArray⟩) (k := ?_)
    refine WL.op (d := 17) (.int .i64 i) (k := ?_)
    refine WL.strAt (T := 9) (l := l) (i := i) (kk := .i64) (d := 18) (by omega) (by first | omega | (simp; omega)) (by kernel_rfl) (by kernel_rfl) (by kernel_rfl) (by kernel_rfl) (by kernel_rfl) ?_
    have ub3 := u8_lt (List.getD l (i).toNat 0)
    refine WL.callG (d := 19) (f := 93) (args := #[.int .u32 ((crcF 4294967295 (List.take i.toNat l) : Nat) : Int), .int .u8 ((List.getD l (i).toNat 0).toNat : Int)]) (u02more_c (n := crcF 4294967295 (List.take i.toNat l)) (by omega) (List.getD l (i).toNat 0) w1) (k := fun e_ w4 h_ => ⟨.int .u32 ((upd (crcF 4294967295 (List.take i.toNat l)) (List.getD l (i).toNat 0) : Nat) : Int), h_.1, ?_⟩)
    have k5 := h_.2; clear h_
    replace K := K.trans (k5.any _)
    refine WL.op (d := 5) (.int .u32 ((upd (crcF 4294967295 (List.take i.toNat l)) (List.getD l (i).toNat 0) : Nat) : Int)) (k := ?_)
    refine WL.nil ?_
    refine WX.blockN ?_
    refine WX.seqN ?_
    refine WC.region ?_
    refine WL.op (d := 13) (.int .i64 i) (k := ?_)
    refine WL.opE (d := 14) (.int .i64 (IntKind.i64.wrap (i + 1))) (v := .int .i64 (i + 1)) (congrArg (Value.int .i64) (IntWalk.i64_in _ (by omega))) (k := ?_)
    refine WL.op (d := 6) (.int .i64 (i + 1)) (k := ?_)
    refine WL.nil ?_
    refine WX.rw (t := 5) (v := .int .u32 ((crcF 4294967295 (List.take (i + 1).toNat l) : Nat) : Int)) (congrArg (fun n : Nat => Value.int .u32 (n : Int)) (crcU_succ i0 (by omega))) (k := ?_)
    refine WX.round (i + 1) (by show (l.length - (i + 1)).toNat < (l.length - i).toNat; omega) ⟨(by kernel_rfl), (by kernel_rfl), (by kernel_rfl), (by kernel_rfl), (by kernel_rfl), (by kernel_rfl), (by kernel_rfl), trivial⟩ ⟨K, (by omega), (by omega)⟩
  · have ph2 := of_decide_eq_false h2
    refine WC.exit ?_
    refine WX.seqE ?_
    refine WX.seqE ?_
    refine WX.blockE ?_
    refine WX.seqN ?_
    refine WC.seq ?_
    refine WC.region ?_
    refine WL.op (d := 20) (.int .u32 ((crcF 4294967295 (List.take i.toNat l) : Nat) : Int)) (k := ?_)
    refine WL.opE (d := 21) (.int .u32 (bits BinOp.xor IntKind.u32 4294967295 ((crcF 4294967295 (List.take i.toNat l) : Nat) : Int))) (v := .int .u32 ((4294967295 - (crcF 4294967295 (List.take i.toNat l)) : Nat) : Int)) (congrArg (Value.int .u32) (not32 (by omega))) (k := ?_)
    refine WL.op (d := 4) (.int .u32 ((4294967295 - (crcF 4294967295 (List.take i.toNat l)) : Nat) : Int)) (k := ?_)
    refine WL.nil ?_
    refine WX.seqN ?_
    refine WC.ret ?_
    refine WX.ret (rs := [.tmp 4]) [.int .u32 ((4294967295 - (crcF 4294967295 (List.take i.toNat l)) : Nat) : Int)] (.int .u32 ((4294967295 - (crcF 4294967295 (List.take i.toNat l)) : Nat) : Int)) ⟨(by kernel_rfl), trivial⟩ (k := ?_)
    have e_ : List.take i.toNat l = l := List.take_of_length_le (by omega)
    exact ⟨by rw [e_]; rfl, K⟩

set_option maxRecDepth 100000 in
set_option maxHeartbeats 4000000 in
theorem u02Sum_c {l : List UInt8} (hm : l.length ≤ 1000000) (w : World) : Calls Tryz.prog 60 #[.string ⟨l.toArray⟩] w fun e w' => e = .returned (.int .u32 ((crc l : Nat) : Int)) ∧ Adds w w' := by
  have K : Keeps (fun _ => False) w w := Keeps.refl _ w
  refine Calls.start Tryz.func60 rfl (by kernel_rfl) ?_
  refine WC.seq ?_
  refine WC.region ?_
  refine WL.op (d := 2) (.int .u32 0) (k := ?_)
  refine WL.nil ?_
  refine WX.seqN ?_
  refine WC.seq ?_
  refine WC.region ?_
  refine WL.op (d := 3) (.string ⟨(l).toArray⟩) (k := ?_)
  refine WL.callG (d := 4) (f := 75) (args := #[.int .u32 0, .string ⟨(l).toArray⟩]) (u02More_c (l := l) (by show List.length l ≤ _; first | omega | (simp; done) | (simp; omega)) w) (k := fun e_ w1 h_ => ⟨.int .u32 ((crc l : Nat) : Int), h_.1, ?_⟩)
  have k2 := h_.2; clear h_
  replace K := K.trans (k2.any _)
  refine WL.op (d := 2) (.int .u32 ((crc l : Nat) : Int)) (k := ?_)
  refine WL.nil ?_
  refine WX.seqN ?_
  refine WC.ret ?_
  refine WX.ret (rs := [.tmp 2]) [.int .u32 ((crc l : Nat) : Int)] (.int .u32 ((crc l : Nat) : Int)) ⟨(by kernel_rfl), trivial⟩ (k := ?_)
  exact ⟨rfl, K⟩

set_option maxRecDepth 100000 in
set_option maxHeartbeats 4000000 in
theorem cFill_c {b : Nat} {c0 c1 c2 : Value} {w : World} (hb : TabC b c0 c1 c2 (tabF 0) w) : Calls Tryz.prog 96 #[.pointer (some ⟨b, 0, none⟩)] w fun e w' => e = .returned (.tuple #[]) ∧ TabC b c0 c1 c2 (tabF 256) w' ∧ Keeps (fun k => k = b) w w' := by
  have K : Keeps (fun k => k = b) w w := Keeps.refl _ w
  refine Calls.start Tryz.func96 rfl (by kernel_rfl) ?_
  refine WC.seq ?_
  refine WC.region ?_
  refine WL.op (d := 4) (.int .i64 0) (k := ?_)
  refine WL.nil ?_
  refine WX.seqN ?_
  refine WC.block ?_
  refine WC.loop (ι := Int) (fun (j : Int) => [(0, .pointer (some ⟨b, 0, none⟩)), (4, .int .i64 j)]) (fun (j : Int) (w_ : World) => (Keeps (fun k => k = b) w w_) ∧ (TabC b c0 c1 c2 (tabF j) w_) ∧ (0 ≤ j) ∧ (j ≤ 256)) (fun (j : Int) => (256 - j).toNat) 0 ⟨(by kernel_rfl), (by kernel_rfl), trivial⟩ ⟨K, hb, Int.le_refl 0, (by decide)⟩ ?_
  rintro j w1 ⟨K, hb2, j0, j1⟩
  refine WC.seq ?_
  refine WC.region ?_
  refine WL.op (d := 5) (.bool (decide (j < 256))) (k := ?_)
  refine WL.nil ?_
  refine WX.seqN ?_
  refine WC.seq ?_
  refine WC.cond (b := decide (j < 256)) (ht := fun h3 => ?_) (hf := fun h3 => ?_)
  · have ph3 := of_decide_eq_true h3
    refine WC.skip ?_
    refine WX.seqN ?_
    refine WC.seq ?_
    refine WC.block ?_
    refine WC.seq ?_
    refine WC.region ?_
    refine WL.op (d := 6) (.int .i64 j) (k := ?_)
    refine WL.op (d := 2) (.int .i64 j) (k := ?_)
    refine WL.nil ?_
    refine WX.seqN ?_
    refine WC.scope ?_
    refine WC.seq ?_
    refine WC.region ?_
    refine WL.op (d := 7) (.int .i64 j) (k := ?_)
    refine WL.opE (d := 8) (.int .u32 (IntKind.u32.wrap j)) (v := .int .u32 j) (congrArg (Value.int .u32) (IntWalk.u32_in _ (by omega))) (k := ?_)
    refine WL.op (d := 3) (.int .u32 j) (k := ?_)
    refine WL.nil ?_
    refine WX.seqN ?_
    refine WC.seq ?_
    refine WC.label ?_
    refine WX.seqN ?_
    refine WC.seq ?_
    refine WC.seq ?_
    refine WC.region ?_
    refine WL.op (d := 9) (.int .i64 0) (k := ?_)
    refine WL.nil ?_
    refine WX.seqN ?_
    refine WC.block ?_
    refine WC.rw (t := 3) (v := .int .u32 ((stpN (0 : Int).toNat j.toNat : Nat) : Int)) (congrArg (Value.int .u32) (show j = ((stpN (0 : Int).toNat j.toNat : Nat) : Int) from (Int.toNat_of_nonneg j0).symm)) (k := ?_)
    refine WC.loop (ι := Int) (fun (i : Int) => [(0, .pointer (some ⟨b, 0, none⟩)), (4, .int .i64 j), (5, .bool (decide (j < 256))), (6, .int .i64 j), (2, .int .i64 j), (7, .int .i64 j), (8, .int .u32 j), (9, .int .i64 i), (3, .int .u32 ((stpN i.toNat j.toNat : Nat) : Int))]) (fun (i : Int) (w_ : World) => (Keeps (fun k => k = b) w w_) ∧ (TabC b c0 c1 c2 (tabF j) w_) ∧ (0 ≤ i) ∧ (i ≤ 8)) (fun (i : Int) => (8 - i).toNat) 0 ⟨(by kernel_rfl), (by kernel_rfl), (by kernel_rfl), (by kernel_rfl), (by kernel_rfl), (by kernel_rfl), (by kernel_rfl), (by kernel_rfl), (by kernel_rfl), trivial⟩ ⟨K, hb2, Int.le_refl 0, (by decide)⟩ ?_
    rintro i w4 ⟨K, hb5, i0, i1⟩
    have sl_ := stpN_lt (n := j.toNat) (by omega) i.toNat
    refine WC.seq ?_
    refine WC.region ?_
    refine WL.op (d := 10) (.bool (decide (i < 8))) (k := ?_)
    refine WL.nil ?_
    refine WX.seqN ?_
    refine WC.seq ?_
    refine WC.cond (b := decide (i < 8)) (ht := fun h6 => ?_) (hf := fun h6 => ?_)
    · have ph6 := of_decide_eq_true h6
      refine WC.skip ?_
      refine WX.seqN ?_
      refine WC.seq ?_
      refine WC.block ?_
      refine WC.seq ?_
      refine WC.seq ?_
      refine WC.region ?_
      refine WL.op (d := 11) (.int .u32 ((stpN i.toNat j.toNat : Nat) : Int)) (k := ?_)
      refine WL.bin (d := 12) (v := .int .u32 (bits BinOp.and IntKind.u32 ((stpN i.toNat j.toNat : Nat) : Int) 1)) (bits_run (by decide)) (k := ?_)
      refine WL.rw (t := 12) (v := .int .u32 (((stpN i.toNat j.toNat) % 2 : Nat) : Int)) (congrArg (Value.int .u32) (bits_and1u (by omega))) (k := ?_)
      refine WL.op (d := 13) (.bool ((((stpN i.toNat j.toNat) % 2 : Nat) : Int) == 0)) (k := ?_)
      refine WL.nil ?_
      refine WX.seqN ?_
      refine WC.cond (b := (((stpN i.toNat j.toNat) % 2 : Nat) : Int) == 0) (ht := fun h7 => ?_) (hf := fun h7 => ?_)
      · have ph7 := eq_of_beq h7
        refine WC.seq ?_
        refine WC.region ?_
        refine WL.op (d := 14) (.int .u32 ((stpN i.toNat j.toNat : Nat) : Int)) (k := ?_)
        refine WL.bin (d := 15) (v := .int .u32 (((stpN i.toNat j.toNat : Nat) : Int) / 2)) (shr_run (k := .u32) (yk := .u64) (x := ((stpN i.toNat j.toNat : Nat) : Int)) (y := 1) (c := 2) (by decide) (by decide) (by decide)) (k := ?_)
        refine WL.rw (t := 15) (v := .int .u32 (((stpN i.toNat j.toNat) / 2 : Nat) : Int)) (congrArg (Value.int .u32) (nat_div (stpN i.toNat j.toNat) 2)) (k := ?_)
        refine WL.op (d := 3) (.int .u32 (((stpN i.toNat j.toNat) / 2 : Nat) : Int)) (k := ?_)
        refine WL.nil ?_
        refine WX.seqN ?_
        refine WC.exit ?_
        refine WX.seqE ?_
        refine WX.blockE ?_
        refine WX.seqN ?_
        refine WC.region ?_
        refine WL.opE (d := 19) (.int .i64 (IntKind.i64.wrap (i + 1))) (v := .int .i64 (i + 1)) (congrArg (Value.int .i64) (IntWalk.i64_in _ (by omega))) (k := ?_)
        refine WL.op (d := 9) (.int .i64 (i + 1)) (k := ?_)
        refine WL.nil ?_
        refine WX.rw (t := 3) (v := .int .u32 ((stpN (i + 1).toNat j.toNat : Nat) : Int)) (congrArg (fun n : Nat => Value.int .u32 (n : Int)) (stpN_even i0 (by omega))) (k := ?_)
        refine WX.round (i + 1) (by show (8 - (i + 1)).toNat < (8 - i).toNat; omega) ⟨(by kernel_rfl), (by kernel_rfl), (by kernel_rfl), (by kernel_rfl), (by kernel_rfl), (by kernel_rfl), (by kernel_rfl), (by kernel_rfl), (by kernel_rfl), trivial⟩ ⟨K, hb5, (by omega), (by omega)⟩
      · have ph7 := ne_of_beq_false h7
        refine WC.skip ?_
        refine WX.seqN ?_
        refine WC.region ?_
        refine WL.op (d := 16) (.int .u32 ((stpN i.toNat j.toNat : Nat) : Int)) (k := ?_)
        refine WL.bin (d := 17) (v := .int .u32 (((stpN i.toNat j.toNat : Nat) : Int) / 2)) (shr_run (k := .u32) (yk := .u64) (x := ((stpN i.toNat j.toNat : Nat) : Int)) (y := 1) (c := 2) (by decide) (by decide) (by decide)) (k := ?_)
        refine WL.rw (t := 17) (v := .int .u32 (((stpN i.toNat j.toNat) / 2 : Nat) : Int)) (congrArg (Value.int .u32) (nat_div (stpN i.toNat j.toNat) 2)) (k := ?_)
        refine WL.bin (d := 18) (v := .int .u32 (bits BinOp.xor IntKind.u32 (((stpN i.toNat j.toNat) / 2 : Nat) : Int) 3988292384)) (bits_run (by decide)) (k := ?_)
        refine WL.rw (t := 18) (v := .int .u32 ((((stpN i.toNat j.toNat) / 2) ^^^ 3988292384 : Nat) : Int)) (congrArg (Value.int .u32) (bits_xor32 (a := ((stpN i.toNat j.toNat) / 2)) (b := 3988292384) (by omega) (by omega))) (k := ?_)
        have xb8 : ((stpN i.toNat j.toNat) / 2) ^^^ 3988292384 < 4294967296 := xor_lt (k := 32) (by omega) (by omega)
        refine WL.op (d := 3) (.int .u32 ((((stpN i.toNat j.toNat) / 2) ^^^ 3988292384 : Nat) : Int)) (k := ?_)
        refine WL.nil ?_
        refine WX.blockN ?_
        refine WX.seqN ?_
        refine WC.region ?_
        refine WL.opE (d := 19) (.int .i64 (IntKind.i64.wrap (i + 1))) (v := .int .i64 (i + 1)) (congrArg (Value.int .i64) (IntWalk.i64_in _ (by omega))) (k := ?_)
        refine WL.op (d := 9) (.int .i64 (i + 1)) (k := ?_)
        refine WL.nil ?_
        refine WX.rw (t := 3) (v := .int .u32 ((stpN (i + 1).toNat j.toNat : Nat) : Int)) (congrArg (fun n : Nat => Value.int .u32 (n : Int)) (stpN_odd i0 (by omega))) (k := ?_)
        refine WX.round (i + 1) (by show (8 - (i + 1)).toNat < (8 - i).toNat; omega) ⟨(by kernel_rfl), (by kernel_rfl), (by kernel_rfl), (by kernel_rfl), (by kernel_rfl), (by kernel_rfl), (by kernel_rfl), (by kernel_rfl), (by kernel_rfl), trivial⟩ ⟨K, hb5, (by omega), (by omega)⟩
    · have ph6 := of_decide_eq_false h6
      refine WC.exit ?_
      refine WX.seqE ?_
      refine WX.seqE ?_
      refine WX.blockE ?_
      refine WX.seqN ?_
      refine WC.region ?_
      refine WL.op (d := 20) (.pointer (some ⟨b, 0, none⟩)) (k := ?_)
      refine WL.op (d := 21) (.int .i64 j) (k := ?_)
      refine WL.op (d := 22) (.int .u32 ((stpN i.toNat j.toNat : Nat) : Int)) (k := ?_)
      refine WL.op (d := 23) (.pointer (some ⟨b, 0, none⟩)) (k := ?_)
      refine WL.op (d := 24) (.pointer (some ⟨b, 3, none⟩)) (k := ?_)
      refine WL.idxA (T := 153) (E := 114) (N := 256) (m := 1) (b := b) (o := 3) (i := j) (kk := .i64) (d := 25) (by omega) (by omega) (by kernel_rfl) (by kernel_rfl) (by kernel_rfl) (by kernel_rfl) (by kernel_rfl) (by kernel_rfl) ?_
      obtain ⟨w9, hs10, hy11, k12⟩ := tab_st (j := (j).toNat) hb5 (by omega) (stpN i.toNat j.toNat)
      refine WL.wr (v := .int .u32 ((stpN i.toNat j.toNat : Nat) : Int)) hs10 (k := ?_)
      replace K := K.trans' k12 (fun i hi e => e)
      clear hs10 hb5
      refine WL.nil ?_
      refine WX.scopeN ?_
      refine WX.blockN ?_
      refine WX.seqN ?_
      refine WC.region ?_
      refine WL.opE (d := 26) (.int .i64 (IntKind.i64.wrap (j + 1))) (v := .int .i64 (j + 1)) (congrArg (Value.int .i64) (IntWalk.i64_in _ (by omega))) (k := ?_)
      refine WL.op (d := 4) (.int .i64 (j + 1)) (k := ?_)
      refine WL.nil ?_
      have ef_ : List.set (tabF j) (j).toNat (stpN i.toNat j.toNat) = tabF (j + 1) := by rw [show i = 8 by omega]; exact tabF_set j0 (by omega)
      rw [ef_] at hy11
      refine WX.round (j + 1) (by show (256 - (j + 1)).toNat < (256 - j).toNat; omega) ⟨(by kernel_rfl), (by kernel_rfl), trivial⟩ ⟨K, hy11, (by omega), (by omega)⟩
  · have ph3 := of_decide_eq_false h3
    refine WC.exit ?_
    refine WX.seqE ?_
    refine WX.seqE ?_
    refine WX.blockE ?_
    refine WX.end (rs := []) [] (.tuple #[]) trivial (k := ?_)
    obtain rfl : j = 256 := by omega
    exact ⟨rfl, hb2, K⟩

end Go.Proofs.YtdoenmokahbeaaaGreatDoor
