/- Frames: numbers, tags, trims. -/
import Derived.Test.YtdoenmokahbeaaaGreatDoorFr3b
namespace Go.Proofs.YtdoenmokahbeaaaGreatDoor
open Go.RowKit
set_option linter.unusedVariables false
set_option linter.unusedSimpArgs false

theorem div_succ {n : Nat} {i : Int} (h : 0 ≤ i) : n / 256 ^ i.toNat / 256 = n / 256 ^ (i + 1).toNat := by
  rw [Nat.div_div_eq_div_mul, ← Nat.pow_succ, show (i + 1).toNat = i.toNat + 1 by omega]
theorem be_step {n : Nat} {i : Int} (h : 0 ≤ i) : [UInt8.ofNat (n / 256 ^ i.toNat % 256 % 256)] ++ be i.toNat n = be (i + 1).toNat n := by
  rw [show (i + 1).toNat = i.toNat + 1 by omega, be_cons, Nat.mod_mod]; rfl

set_option maxRecDepth 100000 in
set_option maxHeartbeats 4000000 in
theorem u04eight_c {n : Nat} (hn : n < 18446744073709551616) (w : World) : Calls Tryz.prog 58 #[.int .u64 (n : Int)] w fun e w' => e = .returned (.string ⟨(be 8 n).toArray⟩) ∧ Adds w w' := by
  have K : Keeps (fun _ => False) w w := Keeps.refl _ w
  refine Calls.start Tryz.func58 rfl (by kernel_rfl) ?_
  refine WC.seq ?_
  refine WC.region ?_
  refine WL.op (d := 2) (.string ⟨#[]⟩) (k := ?_)
  refine WL.nil ?_
  refine WX.seqN ?_
  refine WC.seq ?_
  refine WC.region ?_
  refine WL.op (d := 3) (.string ⟨#[]⟩) (k := ?_)
  refine WL.nil ?_
  refine WX.seqN ?_
  refine WC.seq ?_
  refine WC.seq ?_
  refine WC.region ?_
  refine WL.op (d := 4) (.int .i64 0) (k := ?_)
  refine WL.nil ?_
  refine WX.seqN ?_
  refine WC.block ?_
  refine WC.rw (t := 0) (v := .int .u64 ((n / 256 ^ (0 : Int).toNat : Nat) : Int)) (congrArg (fun n : Nat => Value.int .u64 (n : Int)) (show n = n / 256 ^ (0 : Int).toNat by simp)) (k := ?_)
  refine WC.rw (t := 3) (v := .string ⟨(be (0 : Int).toNat n).toArray⟩) (congrArg (fun l : List UInt8 => Value.string ⟨l.toArray⟩) rfl) (k := ?_)
  refine WC.loop (ι := Int) (fun (i : Int) => [(2, .string ⟨#[]⟩), (4, .int .i64 i), (0, .int .u64 ((n / 256 ^ i.toNat : Nat) : Int)), (3, .string ⟨(be i.toNat n).toArray⟩)]) (fun (i : Int) (w_ : World) => (Keeps (fun _ => False) w w_) ∧ (0 ≤ i) ∧ (i ≤ 8)) (fun (i : Int) => (8 - i).toNat) 0 ⟨(by kernel_rfl), (by kernel_rfl), (by kernel_rfl), (by kernel_rfl), trivial⟩ ⟨K, Int.le_refl 0, (by decide)⟩ ?_
  rintro i w1 ⟨K, i0, i1⟩
  have dl_ : n / 256 ^ i.toNat < 18446744073709551616 := Nat.lt_of_le_of_lt (Nat.div_le_self _ _) hn
  have bl_ := be_len i.toNat n
  refine WC.seq ?_
  refine WC.seq ?_
  refine WC.region ?_
  refine WL.op (d := 5) (.int .i64 i) (k := ?_)
  refine WL.op (d := 6) (.bool (decide (i < 8))) (k := ?_)
  refine WL.nil ?_
  refine WX.seqN ?_
  refine WC.cond (b := decide (i < 8)) (ht := fun h2 => ?_) (hf := fun h2 => ?_)
  · have ph2 := of_decide_eq_true h2
    refine WC.skip ?_
    refine WX.seqN ?_
    refine WC.seq ?_
    refine WC.block ?_
    refine WC.seq ?_
    refine WC.region ?_
    refine WL.op (d := 9) (.int .u64 ((n / 256 ^ i.toNat : Nat) : Int)) (k := ?_)
    refine WL.bin (d := 10) (v := .int .u64 (Int.tmod ((n / 256 ^ i.toNat : Nat) : Int) 256)) (rem_run (by omega)) (k := ?_)
    refine WL.rw (t := 10) (v := .int .u64 (((n / 256 ^ i.toNat) % 256 : Nat) : Int)) (congrArg (Value.int .u64) (tmod_nat (n / 256 ^ i.toNat) 256)) (k := ?_)
    have ub3 := u8_lt (UInt8.ofNat (((n / 256 ^ i.toNat) % 256) % 256))
    refine WL.opE (d := 11) (.int .u8 (IntKind.u8.wrap (((n / 256 ^ i.toNat) % 256 : Nat) : Int))) (v := .int .u8 ((UInt8.ofNat (((n / 256 ^ i.toNat) % 256) % 256)).toNat : Int)) (congrArg (Value.int .u8) (byte_nat ((n / 256 ^ i.toNat) % 256))) (k := ?_)
    refine WL.newF (d := 12) (T := 5) #[.int .u8 ((UInt8.ofNat (((n / 256 ^ i.toNat) % 256) % 256)).toNat : Int)] (fun b => .slice (some ⟨b, 0, none⟩) 1 1) (k := fun b4 w5 g6 hb7 k8 => ?_)
    have z9 := Nat.le_trans K.size g6
    replace K := K.trans (k8.any _)
    refine WL.conv (d := 13) (vx := .slice (some ⟨b4, 0, none⟩) 1 1) (v := .string ⟨#[(UInt8.ofNat (((n / 256 ^ i.toNat) % 256) % 256))]⟩) (run_ofBytes (T := 87) (S := 9) (E := 5) (l := [(UInt8.ofNat (((n / 256 ^ i.toNat) % 256) % 256))]) (by kernel_rfl) (by kernel_rfl) (by kernel_rfl) hb7 rfl (by kernel_rfl)) (k := ?_)
    refine WL.op (d := 14) (.string ⟨(be i.toNat n).toArray⟩) (k := ?_)
    refine WL.bin (d := 15) (v := .string ⟨([(UInt8.ofNat (((n / 256 ^ i.toNat) % 256) % 256))] ++ (be i.toNat n)).toArray⟩) (cat_run (by (try simp only [List.length_append, List.length_cons, List.length_nil]); omega)) (k := ?_)
    refine WL.op (d := 3) (.string ⟨([(UInt8.ofNat (((n / 256 ^ i.toNat) % 256) % 256))] ++ (be i.toNat n)).toArray⟩) (k := ?_)
    refine WL.nil ?_
    refine WX.seqN ?_
    refine WC.region ?_
    refine WL.op (d := 16) (.int .u64 ((n / 256 ^ i.toNat : Nat) : Int)) (k := ?_)
    refine WL.bin (d := 17) (v := .int .u64 (IntKind.u64.wrap (Int.tdiv ((n / 256 ^ i.toNat : Nat) : Int) 256))) (quo_run (by omega)) (k := ?_)
    refine WL.rw (t := 17) (v := .int .u64 (((n / 256 ^ i.toNat) / 256 : Nat) : Int)) (congrArg (Value.int .u64) (quo64 256 (by omega))) (k := ?_)
    refine WL.op (d := 0) (.int .u64 (((n / 256 ^ i.toNat) / 256 : Nat) : Int)) (k := ?_)
    refine WL.nil ?_
    refine WX.blockN ?_
    refine WX.seqN ?_
    refine WC.region ?_
    refine WL.op (d := 7) (.int .i64 i) (k := ?_)
    refine WL.opE (d := 8) (.int .i64 (IntKind.i64.wrap (i + 1))) (v := .int .i64 (i + 1)) (congrArg (Value.int .i64) (IntWalk.i64_in _ (by omega))) (k := ?_)
    refine WL.op (d := 4) (.int .i64 (i + 1)) (k := ?_)
    refine WL.nil ?_
    refine WX.rw (t := 0) (v := .int .u64 ((n / 256 ^ (i + 1).toNat : Nat) : Int)) (congrArg (fun n : Nat => Value.int .u64 (n : Int)) (div_succ i0)) (k := ?_)
    refine WX.rw (t := 3) (v := .string ⟨(be (i + 1).toNat n).toArray⟩) (congrArg (fun l : List UInt8 => Value.string ⟨l.toArray⟩) (be_step i0)) (k := ?_)
    refine WX.round (i + 1) (by show (8 - (i + 1)).toNat < (8 - i).toNat; omega) ⟨(by kernel_rfl), (by kernel_rfl), (by kernel_rfl), (by kernel_rfl), trivial⟩ ⟨K, (by omega), (by omega)⟩
  · have ph2 := of_decide_eq_false h2
    refine WC.exit ?_
    refine WX.seqE ?_
    refine WX.seqE ?_
    refine WX.blockE ?_
    refine WX.seqN ?_
    refine WC.seq ?_
    refine WC.region ?_
    refine WL.op (d := 18) (.string ⟨(be i.toNat n).toArray⟩) (k := ?_)
    refine WL.op (d := 2) (.string ⟨(be i.toNat n).toArray⟩) (k := ?_)
    refine WL.nil ?_
    refine WX.seqN ?_
    refine WC.ret ?_
    refine WX.ret (rs := [.tmp 2]) [.string ⟨(be i.toNat n).toArray⟩] (.string ⟨(be i.toNat n).toArray⟩) ⟨(by kernel_rfl), trivial⟩ (k := ?_)
    obtain rfl : i = 8 := by omega
    exact ⟨rfl, K⟩

set_option maxRecDepth 100000 in
set_option maxHeartbeats 4000000 in
theorem u04number_c {l : List UInt8} (hl : l.length = 8) (w : World) : Calls Tryz.prog 74 #[.string ⟨l.toArray⟩] w fun e w' => e = .returned (.int .u64 ((beval l : Nat) : Int)) ∧ Adds w w' := by
  have K : Keeps (fun _ => False) w w := Keeps.refl _ w
  refine Calls.start Tryz.func74 rfl (by kernel_rfl) ?_
  refine WC.seq ?_
  refine WC.region ?_
  refine WL.op (d := 2) (.int .u64 0) (k := ?_)
  refine WL.nil ?_
  refine WX.seqN ?_
  refine WC.seq ?_
  refine WC.region ?_
  refine WL.op (d := 3) (.int .u64 0) (k := ?_)
  refine WL.nil ?_
  refine WX.seqN ?_
  refine WC.seq ?_
  refine WC.seq ?_
  refine WC.region ?_
  refine WL.op (d := 4) (.int .i64 0) (k := ?_)
  refine WL.nil ?_
  refine WX.seqN ?_
  refine WC.block ?_
  refine WC.loop (ι := Int) (fun (i : Int) => [(0, .string ⟨(l).toArray⟩), (2, .int .u64 0), (4, .int .i64 i), (3, .int .u64 ((beval (List.take i.toNat l) : Nat) : Int))]) (fun (i : Int) (w_ : World) => (Keeps (fun _ => False) w w_) ∧ (0 ≤ i) ∧ (i ≤ 8)) (fun (i : Int) => (8 - i).toNat) 0 ⟨(by kernel_rfl), (by kernel_rfl), (by kernel_rfl), (by kernel_rfl), trivial⟩ ⟨K, Int.le_refl 0, (by decide)⟩ ?_
  rintro i w1 ⟨K, i0, i1⟩
  refine WC.seq ?_
  refine WC.seq ?_
  refine WC.region ?_
  refine WL.op (d := 5) (.int .i64 i) (k := ?_)
  refine WL.op (d := 6) (.bool (decide (i < 8))) (k := ?_)
  refine WL.nil ?_
  refine WX.seqN ?_
  refine WC.cond (b := decide (i < 8)) (ht := fun h2 => ?_) (hf := fun h2 => ?_)
  · have ph2 := of_decide_eq_true h2
    refine WC.skip ?_
    refine WX.seqN ?_
    refine WC.seq ?_
    refine WC.block ?_
    have bb_ := beval_b56 l (i := i) (by omega)
    refine WC.region ?_
    refine WL.op (d := 9) (.int .u64 ((beval (List.take i.toNat l) : Nat) : Int)) (k := ?_)
    refine WL.opE (d := 10) (.int .u64 (IntKind.u64.wrap (((beval (List.take i.toNat l) : Nat) : Int) * 256))) (v := .int .u64 (((beval (List.take i.toNat l)) * 256 : Nat) : Int)) (congrArg (Value.int .u64) (mul64 (a := (beval (List.take i.toNat l))) (b := 256) (by omega))) (k := ?_)
    refine WL.op (d := 11) (.string ⟨(l).toArray⟩) (k := ?_)
    refine WL.op (d := 12) (.int .i64 i) (k := ?_)
    refine WL.strAt (T := 9) (l := l) (i := i) (kk := .i64) (d := 13) (by omega) (by first | omega | (simp; omega)) (by kernel_rfl) (by kernel_rfl) (by kernel_rfl) (by kernel_rfl) (by kernel_rfl) ?_
    have ub3 := u8_lt (List.getD l (i).toNat 0)
    refine WL.opE (d := 14) (.int .u64 (IntKind.u64.wrap ((List.getD l (i).toNat 0).toNat : Int))) (v := .int .u64 ((List.getD l (i).toNat 0).toNat : Int)) (congrArg (Value.int .u64) (IntWalk.u64_in _ (by omega))) (k := ?_)
    refine WL.opE (d := 15) (.int .u64 (IntKind.u64.wrap ((((beval (List.take i.toNat l)) * 256 : Nat) : Int) + ((List.getD l (i).toNat 0).toNat : Int)))) (v := .int .u64 (((beval (List.take i.toNat l)) * 256 + ((List.getD l (i).toNat 0).toNat) : Nat) : Int)) (congrArg (Value.int .u64) (add64 (a := ((beval (List.take i.toNat l)) * 256)) (b := ((List.getD l (i).toNat 0).toNat)) (by omega))) (k := ?_)
    refine WL.op (d := 3) (.int .u64 (((beval (List.take i.toNat l)) * 256 + ((List.getD l (i).toNat 0).toNat) : Nat) : Int)) (k := ?_)
    refine WL.nil ?_
    refine WX.blockN ?_
    refine WX.seqN ?_
    refine WC.region ?_
    refine WL.op (d := 7) (.int .i64 i) (k := ?_)
    refine WL.opE (d := 8) (.int .i64 (IntKind.i64.wrap (i + 1))) (v := .int .i64 (i + 1)) (congrArg (Value.int .i64) (IntWalk.i64_in _ (by omega))) (k := ?_)
    refine WL.op (d := 4) (.int .i64 (i + 1)) (k := ?_)
    refine WL.nil ?_
    refine WX.rw (t := 3) (v := .int .u64 ((beval (List.take (i + 1).toNat l) : Nat) : Int)) (congrArg (fun n : Nat => Value.int .u64 (n : Int)) (beU_succ i0 (by omega))) (k := ?_)
    refine WX.round (i + 1) (by show (8 - (i + 1)).toNat < (8 - i).toNat; omega) ⟨(by kernel_rfl), (by kernel_rfl), (by kernel_rfl), (by kernel_rfl), trivial⟩ ⟨K, (by omega), (by omega)⟩
  · have ph2 := of_decide_eq_false h2
    refine WC.exit ?_
    refine WX.seqE ?_
    refine WX.seqE ?_
    refine WX.blockE ?_
    refine WX.seqN ?_
    refine WC.seq ?_
    refine WC.region ?_
    refine WL.op (d := 16) (.int .u64 ((beval (List.take i.toNat l) : Nat) : Int)) (k := ?_)
    refine WL.op (d := 2) (.int .u64 ((beval (List.take i.toNat l) : Nat) : Int)) (k := ?_)
    refine WL.nil ?_
    refine WX.seqN ?_
    refine WC.ret ?_
    refine WX.ret (rs := [.tmp 2]) [.int .u64 ((beval (List.take i.toNat l) : Nat) : Int)] (.int .u64 ((beval (List.take i.toNat l) : Nat) : Int)) ⟨(by kernel_rfl), trivial⟩ (k := ?_)
    have e_ : List.take i.toNat l = l := List.take_of_length_le (by omega)
    exact ⟨by rw [e_], K⟩

set_option maxRecDepth 100000 in
set_option maxHeartbeats 4000000 in
theorem fTag1_c {a : Nat} {l : List UInt8} {bx : Nat} {w : World} (hl : l.length = 64) (ha : a ≤ 56) (hx : w.heap[bx]? = some (.cells #[.string ⟨l.toArray⟩] 9 (0, 0))) : Calls Tryz.prog 77 #[.int .i64 (a : Int), .pointer (some ⟨bx, 0, none⟩)] w fun e w' => e = .returned (.int .u64 ((beval (List.take 8 (List.drop a l)) : Nat) : Int)) ∧ Adds w w' := by
  have K : Keeps (fun _ => False) w w := Keeps.refl _ w
  refine Calls.start Tryz.func77 rfl (by kernel_rfl) ?_
  refine WC.seq ?_
  refine WC.region ?_
  refine WL.op (d := 3) (.int .u64 0) (k := ?_)
  refine WL.nil ?_
  refine WX.seqN ?_
  refine WC.seq ?_
  refine WC.region ?_
  refine WL.op (d := 4) (.int .u64 0) (k := ?_)
  refine WL.nil ?_
  refine WX.seqN ?_
  refine WC.seq ?_
  refine WC.seq ?_
  refine WC.region ?_
  refine WL.op (d := 6) (.int .i64 0) (k := ?_)
  refine WL.nil ?_
  refine WX.seqN ?_
  refine WC.block ?_
  refine WC.loop (ι := Int) (fun (i : Int) => [(0, .int .i64 (a : Int)), (1, .pointer (some ⟨bx, 0, none⟩)), (3, .int .u64 0), (6, .int .i64 i), (4, .int .u64 ((beval (List.take i.toNat (List.drop a l)) : Nat) : Int))]) (fun (i : Int) (w_ : World) => (Keeps (fun _ => False) w w_) ∧ (0 ≤ i) ∧ (i ≤ 8)) (fun (i : Int) => (8 - i).toNat) 0 ⟨(by kernel_rfl), (by kernel_rfl), (by kernel_rfl), (by kernel_rfl), (by kernel_rfl), trivial⟩ ⟨K, Int.le_refl 0, (by decide)⟩ ?_
  rintro i w1 ⟨K, i0, i1⟩
  refine WC.seq ?_
  refine WC.region ?_
  refine WL.op (d := 7) (.bool (decide (i < 8))) (k := ?_)
  refine WL.nil ?_
  refine WX.seqN ?_
  refine WC.seq ?_
  refine WC.cond (b := decide (i < 8)) (ht := fun h2 => ?_) (hf := fun h2 => ?_)
  · have ph2 := of_decide_eq_true h2
    refine WC.skip ?_
    refine WX.seqN ?_
    refine WC.seq ?_
    refine WC.block ?_
    refine WC.seq ?_
    refine WC.region ?_
    refine WL.op (d := 8) (.int .i64 i) (k := ?_)
    refine WL.op (d := 5) (.int .i64 i) (k := ?_)
    refine WL.nil ?_
    refine WX.seqN ?_
    have bb_ := beval_b56 (List.drop a l) (i := i) (by omega)
    refine WC.region ?_
    refine WL.op (d := 9) (.int .u64 ((beval (List.take i.toNat (List.drop a l)) : Nat) : Int)) (k := ?_)
    refine WL.bin (d := 10) (v := .int .u64 (IntKind.u64.wrap (((beval (List.take i.toNat (List.drop a l)) : Nat) : Int) * 256))) (shl_run (k := .u64) (yk := .u64) (x := ((beval (List.take i.toNat (List.drop a l)) : Nat) : Int)) (y := 8) (c := 256) (by decide) (by decide) (by decide)) (k := ?_)
    refine WL.rw (t := 10) (v := .int .u64 (((beval (List.take i.toNat (List.drop a l))) * 256 : Nat) : Int)) (congrArg (Value.int .u64) (shl64 (a := (beval (List.take i.toNat (List.drop a l)))) (by omega))) (k := ?_)
    refine WL.load (v := .string ⟨(l).toArray⟩) (ld1 (T := 9) (i := 0) (K.heap hx id)) (k := ?_)
    refine WL.op (d := 12) (.int .i64 (a : Int)) (k := ?_)
    refine WL.op (d := 13) (.int .i64 i) (k := ?_)
    refine WL.opE (d := 14) (.int .i64 (IntKind.i64.wrap ((a : Int) + i))) (v := .int .i64 ((a : Int) + i)) (congrArg (Value.int .i64) (IntWalk.i64_in _ (by omega))) (k := ?_)
    refine WL.strAt (T := 9) (l := l) (i := (a : Int) + i) (kk := .i64) (d := 15) (by omega) (by first | omega | (simp; omega)) (by kernel_rfl) (by kernel_rfl) (by kernel_rfl) (by kernel_rfl) (by kernel_rfl) ?_
    have ub3 := u8_lt (List.getD l ((a : Int) + i).toNat 0)
    refine WL.opE (d := 16) (.int .u64 (IntKind.u64.wrap ((List.getD l ((a : Int) + i).toNat 0).toNat : Int))) (v := .int .u64 ((List.getD l ((a : Int) + i).toNat 0).toNat : Int)) (congrArg (Value.int .u64) (IntWalk.u64_in _ (by omega))) (k := ?_)
    refine WL.bin (d := 17) (v := .int .u64 (bits BinOp.or IntKind.u64 (((beval (List.take i.toNat (List.drop a l))) * 256 : Nat) : Int) ((List.getD l ((a : Int) + i).toNat 0).toNat : Int))) (bits_run (by decide)) (k := ?_)
    refine WL.rw (t := 17) (v := .int .u64 (((beval (List.take i.toNat (List.drop a l))) * 256 + ((List.getD l ((a : Int) + i).toNat 0).toNat) : Nat) : Int)) (congrArg (Value.int .u64) (bits_or64 (by omega) (by omega))) (k := ?_)
    refine WL.op (d := 4) (.int .u64 (((beval (List.take i.toNat (List.drop a l))) * 256 + ((List.getD l ((a : Int) + i).toNat 0).toNat) : Nat) : Int)) (k := ?_)
    refine WL.nil ?_
    refine WX.blockN ?_
    refine WX.seqN ?_
    refine WC.region ?_
    refine WL.opE (d := 18) (.int .i64 (IntKind.i64.wrap (i + 1))) (v := .int .i64 (i + 1)) (congrArg (Value.int .i64) (IntWalk.i64_in _ (by omega))) (k := ?_)
    refine WL.op (d := 6) (.int .i64 (i + 1)) (k := ?_)
    refine WL.nil ?_
    refine WX.rw (t := 4) (v := .int .u64 ((beval (List.take (i + 1).toNat (List.drop a l)) : Nat) : Int)) (congrArg (fun n : Nat => Value.int .u64 (n : Int)) (beAt_succ i0 (by omega))) (k := ?_)
    refine WX.round (i + 1) (by show (8 - (i + 1)).toNat < (8 - i).toNat; omega) ⟨(by kernel_rfl), (by kernel_rfl), (by kernel_rfl), (by kernel_rfl), (by kernel_rfl), trivial⟩ ⟨K, (by omega), (by omega)⟩
  · have ph2 := of_decide_eq_false h2
    refine WC.exit ?_
    refine WX.seqE ?_
    refine WX.seqE ?_
    refine WX.blockE ?_
    refine WX.seqN ?_
    refine WC.seq ?_
    refine WC.region ?_
    refine WL.op (d := 19) (.int .u64 ((beval (List.take i.toNat (List.drop a l)) : Nat) : Int)) (k := ?_)
    refine WL.op (d := 3) (.int .u64 ((beval (List.take i.toNat (List.drop a l)) : Nat) : Int)) (k := ?_)
    refine WL.nil ?_
    refine WX.seqN ?_
    refine WC.ret ?_
    refine WX.ret (rs := [.tmp 3]) [.int .u64 ((beval (List.take i.toNat (List.drop a l)) : Nat) : Int)] (.int .u64 ((beval (List.take i.toNat (List.drop a l)) : Nat) : Int)) ⟨(by kernel_rfl), trivial⟩ (k := ?_)
    obtain rfl : i = 8 := by omega
    exact ⟨rfl, K⟩

set_option maxRecDepth 100000 in
set_option maxHeartbeats 4000000 in
theorem fTag_c {l : List UInt8} (hm : l.length ≤ 1000000) (w : World) : Calls Tryz.prog 62 #[.string ⟨l.toArray⟩] w fun e w' => e = .returned (.tuple #[.int .u64 (tgE l : Int), .int .u64 (tgN l : Int), .bool (decide (l.length = 64))]) ∧ Adds w w' := by
  have K : Keeps (fun _ => False) w w := Keeps.refl _ w
  refine Calls.start Tryz.func62 rfl (by kernel_rfl) ?_
  refine WC.seq ?_
  refine WC.region ?_
  refine WL.new (d := 1) (T := 9) #[.string ⟨(l).toArray⟩] (k := fun b1 w2 g3 hb4 k5 => ?_)
  have z6 := Nat.le_trans K.size g3
  replace K := K.trans (k5.any _)
  refine WL.op (d := 2) (.int .u64 0) (k := ?_)
  refine WL.op (d := 3) (.int .u64 0) (k := ?_)
  refine WL.op (d := 4) (.bool false) (k := ?_)
  refine WL.nil ?_
  refine WX.seqN ?_
  refine WC.seq ?_
  refine WC.seq ?_
  refine WC.region ?_
  refine WL.load (v := .string ⟨(l).toArray⟩) (ld1 (T := 9) (i := 0) hb4) (k := ?_)
  refine WL.op (d := 7) (.int .i64 (l.length : Int)) (k := ?_)
  refine WL.op (d := 8) (.bool ((l.length : Int) != 64)) (k := ?_)
  refine WL.nil ?_
  refine WX.seqN ?_
  refine WC.cond (b := (l.length : Int) != 64) (ht := fun h7 => ?_) (hf := fun h7 => ?_)
  · have ph7 := bne_iff_ne.1 h7
    refine WC.seq ?_
    refine WC.region ?_
    refine WL.op (d := 2) (.int .u64 0) (k := ?_)
    refine WL.op (d := 3) (.int .u64 0) (k := ?_)
    refine WL.op (d := 4) (.bool false) (k := ?_)
    refine WL.nil ?_
    refine WX.seqN ?_
    refine WC.ret ?_
    refine WX.seqR ?_
    refine WX.ret (rs := [.tmp 2, .tmp 3, .tmp 4]) [.int .u64 0, .int .u64 0, .bool false] (.tuple #[.int .u64 0, .int .u64 0, .bool false]) ⟨(by kernel_rfl), (by kernel_rfl), (by kernel_rfl), trivial⟩ (k := ?_)
    have q_ : ¬ l.length = 64 := fun h => ph7 (by omega)
    exact ⟨by rw [tgE_no q_, tgN_no q_, decide_eq_false q_]; rfl, K⟩
  · have ph7 := of_bne_false h7
    refine WC.skip ?_
    refine WX.seqN ?_
    refine WC.seq ?_
    refine WC.region ?_
    refine WL.op (d := 9) (.func (.func 77) #[] #[.pointer (some ⟨b1, 0, none⟩)]) (k := ?_)
    refine WL.op (d := 5) (.func (.func 77) #[] #[.pointer (some ⟨b1, 0, none⟩)]) (k := ?_)
    refine WL.nil ?_
    refine WX.seqN ?_
    refine WC.seq ?_
    refine WC.region ?_
    refine WL.op (d := 10) (.func (.func 77) #[] #[.pointer (some ⟨b1, 0, none⟩)]) (k := ?_)
    refine WL.callG (d := 11) (f := 77) (args := #[.int .i64 48, .pointer (some ⟨b1, 0, none⟩)]) (fTag1_c (a := 48) (l := l) (by omega) (by omega) hb4) (k := fun e_ w8 h_ => ⟨.int .u64 ((beval (List.take 8 (List.drop 48 l)) : Nat) : Int), h_.1, ?_⟩)
    have k9 := h_.2; clear h_
    replace hb4 := k9.heap hb4 id
    replace K := K.trans (k9.any _)
    refine WL.op (d := 12) (.func (.func 77) #[] #[.pointer (some ⟨b1, 0, none⟩)]) (k := ?_)
    refine WL.callG (d := 13) (f := 77) (args := #[.int .i64 56, .pointer (some ⟨b1, 0, none⟩)]) (fTag1_c (a := 56) (l := l) (by omega) (by omega) hb4) (k := fun e_ w10 h_ => ⟨.int .u64 ((beval (List.take 8 (List.drop 56 l)) : Nat) : Int), h_.1, ?_⟩)
    have k11 := h_.2; clear h_
    replace hb4 := k11.heap hb4 id
    replace K := K.trans (k11.any _)
    refine WL.op (d := 2) (.int .u64 ((beval (List.take 8 (List.drop 48 l)) : Nat) : Int)) (k := ?_)
    refine WL.op (d := 3) (.int .u64 ((beval (List.take 8 (List.drop 56 l)) : Nat) : Int)) (k := ?_)
    refine WL.op (d := 4) (.bool true) (k := ?_)
    refine WL.nil ?_
    refine WX.seqN ?_
    refine WC.ret ?_
    refine WX.ret (rs := [.tmp 2, .tmp 3, .tmp 4]) [.int .u64 ((beval (List.take 8 (List.drop 48 l)) : Nat) : Int), .int .u64 ((beval (List.take 8 (List.drop 56 l)) : Nat) : Int), .bool true] (.tuple #[.int .u64 ((beval (List.take 8 (List.drop 48 l)) : Nat) : Int), .int .u64 ((beval (List.take 8 (List.drop 56 l)) : Nat) : Int), .bool true]) ⟨(by kernel_rfl), (by kernel_rfl), (by kernel_rfl), trivial⟩ (k := ?_)
    have q_ : l.length = 64 := by omega
    exact ⟨by rw [tgE_ok q_, tgN_ok q_, decide_eq_true q_], K⟩

set_option maxRecDepth 100000 in
set_option maxHeartbeats 4000000 in
theorem u04Tag_c {l : List UInt8} (hm : l.length ≤ 1000000) (w : World) : Calls Tryz.prog 57 #[.string ⟨l.toArray⟩] w fun e w' => e = .returned (.agg #[.int .u64 (tgE l : Int), .int .u64 (tgN l : Int), .bool (decide (l.length = 64))]) ∧ Adds w w' := by
  have K : Keeps (fun _ => False) w w := Keeps.refl _ w
  refine Calls.start Tryz.func57 rfl (by kernel_rfl) ?_
  refine WC.seq ?_
  refine WC.region ?_
  refine WL.new (d := 2) (T := 110) #[.int .u64 0, .int .u64 0, .bool false] (k := fun b1 w2 g3 hb4 k5 => ?_)
  have z6 := Nat.le_trans K.size g3
  replace K := K.trans (k5.any _)
  refine WL.nil ?_
  refine WX.seqN ?_
  refine WC.seq ?_
  refine WC.seq ?_
  refine WC.region ?_
  refine WL.op (d := 3) (.string ⟨(l).toArray⟩) (k := ?_)
  refine WL.op (d := 4) (.int .i64 (l.length : Int)) (k := ?_)
  refine WL.op (d := 5) (.bool ((l.length : Int) != 64)) (k := ?_)
  refine WL.nil ?_
  refine WX.seqN ?_
  refine WC.cond (b := (l.length : Int) != 64) (ht := fun h7 => ?_) (hf := fun h7 => ?_)
  · have ph7 := bne_iff_ne.1 h7
    refine WC.seq ?_
    refine WC.region ?_
    refine WL.op (d := 6) (.agg #[.int .u64 0, .int .u64 0, .bool false]) (k := ?_)
    refine WL.store (v := .agg #[.int .u64 0, .int .u64 0, .bool false]) (i := 0) (cs' := #[.int .u64 0, .int .u64 0, .bool false]) hb4 (k := fun w8 hb9 k10 => ?_)
    replace K := K.trans' k10 (fun i hi e => absurd (e ▸ hi) (Nat.not_lt.2 z6))
    clear hb4
    refine WL.nil ?_
    refine WX.seqN ?_
    refine WC.ret ?_
    refine WX.seqR ?_
    refine WX.ret (rs := [.cell 2 110]) [.agg #[.int .u64 0, .int .u64 0, .bool false]] (.agg #[.int .u64 0, .int .u64 0, .bool false]) ⟨⟨_, (by kernel_rfl), ldN (T := 110) (i := 0) (m := 3) (l := [.int .u64 0, .int .u64 0, .bool false]) hb9⟩, trivial⟩ (k := ?_)
    have q_ : ¬ l.length = 64 := fun h => ph7 (by omega)
    exact ⟨by rw [tgE_no q_, tgN_no q_, decide_eq_false q_]; rfl, K⟩
  · have ph7 := of_bne_false h7
    refine WC.skip ?_
    refine WX.seqN ?_
    refine WC.seq ?_
    refine WC.tail 7 (k := ?_)
    refine WQ.op (d := 7) (.string ⟨(l).toArray⟩) (k := ?_)
    refine WQ.cut (d := 8) (vx := .string ⟨(l).toArray⟩) (lo' := (some (.int .i64 48))) (hi' := (some (.int .i64 56))) (mx' := none) (v := .string ⟨(List.drop 48 (List.take 56 l)).toArray⟩) (fun w_ => run_cut (P := Tryz.prog) (w := w_) (lo := (some (.int .i64 48))) (hi := (some (.int .i64 56))) (T := 9) (a := 48) (b := 56) (l := l) (by kernel_rfl) (.inr ⟨_, _, rfl, by omega⟩) (.inr ⟨_, _, rfl, by omega⟩) (by first | omega | (simp; omega)) (by first | omega | (simp; omega))) (k := ?_)
    refine WQ.callG (d := 9) (f := 74) (args := #[.string ⟨(List.drop 48 (List.take 56 l)).toArray⟩]) (v := .int .u64 ((beval (List.drop 48 (List.take 56 l)) : Nat) : Int)) (fun w_ k_ => u04number_c (l := List.drop 48 (List.take 56 l)) (by simp; omega) w_) addsR (k := ?_)
    refine WQ.op (d := 10) (.string ⟨(l).toArray⟩) (k := ?_)
    refine WQ.cut (d := 11) (vx := .string ⟨(l).toArray⟩) (lo' := (some (.int .i64 56))) (hi' := none) (mx' := none) (v := .string ⟨(List.drop 56 l).toArray⟩) (fun w_ => (by have h_ := run_cut (P := Tryz.prog) (w := w_) (lo := (some (.int .i64 56))) (hi := none) (T := 9) (a := 56) (b := l.length) (l := l) (by kernel_rfl) (.inr ⟨_, _, rfl, by omega⟩) (.inl ⟨rfl, rfl⟩) (by first | omega | (simp; omega)) (by first | omega | (simp; omega)); rw [List.take_length] at h_; exact h_)) (k := ?_)
    refine WQ.callG (d := 12) (f := 74) (args := #[.string ⟨(List.drop 56 l).toArray⟩]) (v := .int .u64 ((beval (List.drop 56 l) : Nat) : Int)) (fun w_ k_ => u04number_c (l := List.drop 56 l) (by simp; omega) w_) addsR (k := ?_)
    refine WQ.op (d := 13) (.agg #[.int .u64 ((beval (List.drop 48 (List.take 56 l)) : Nat) : Int), .int .u64 ((beval (List.drop 56 l) : Nat) : Int), .bool true]) (k := ?_)
    refine WQ.nilL (fun w11 k12 => ?_)
    replace hb4 := k12.heap hb4 id
    replace K := K.trans (k12.any _)
    refine WL.store (v := .agg #[.int .u64 ((beval (List.drop 48 (List.take 56 l)) : Nat) : Int), .int .u64 ((beval (List.drop 56 l) : Nat) : Int), .bool true]) (i := 0) (cs' := #[.int .u64 ((beval (List.drop 48 (List.take 56 l)) : Nat) : Int), .int .u64 ((beval (List.drop 56 l) : Nat) : Int), .bool true]) hb4 (k := fun w13 hb14 k15 => ?_)
    replace K := K.trans' k15 (fun i hi e => absurd (e ▸ hi) (Nat.not_lt.2 z6))
    clear hb4
    refine WL.nil ?_
    refine WX.seqN ?_
    refine WC.ret ?_
    refine WX.ret (rs := [.cell 2 110]) [.agg #[.int .u64 ((beval (List.drop 48 (List.take 56 l)) : Nat) : Int), .int .u64 ((beval (List.drop 56 l) : Nat) : Int), .bool true]] (.agg #[.int .u64 ((beval (List.drop 48 (List.take 56 l)) : Nat) : Int), .int .u64 ((beval (List.drop 56 l) : Nat) : Int), .bool true]) ⟨⟨_, (by kernel_rfl), ldN (T := 110) (i := 0) (m := 3) (l := [.int .u64 ((beval (List.drop 48 (List.take 56 l)) : Nat) : Int), .int .u64 ((beval (List.drop 56 l) : Nat) : Int), .bool true]) hb14⟩, trivial⟩ (k := ?_)
    have q_ : l.length = 64 := by omega
    exact ⟨by rw [tgE_ok q_, tgN_ok' q_, decide_eq_true q_, List.take_drop], K⟩

theorem flat8_len : ∀ l : List Nat, (l.flatMap (be 8)).length = 8 * l.length
  | [] => rfl
  | x :: l => by simp [List.flatMap_cons, be_len, flat8_len l]; omega

theorem ou_len (xs : List Nat) (k : Nat) : ((List.take k xs).flatMap (be 8)).length ≤ 8 * xs.length := by
  rw [flat8_len, List.length_take]; omega
theorem ou_step {P : List UInt8} {r : Nat} {j : Int} (h0 : 0 ≤ j) (h1 : j < 8) : P ++ (be 8 r).take j.toNat ++ [UInt8.ofNat (r / 256 ^ (8 - 1 - j.toNat) % 256)] = P ++ (be 8 r).take (j + 1).toNat := by
  rw [List.append_assoc, be_take (by omega), show (j + 1).toNat = j.toNat + 1 by omega]
theorem ou_succ {xs : List Nat} {i j : Int} {r : Nat} (h0 : 0 ≤ i) (hr : xs[i.toNat]? = some r) (h : 8 ≤ j) : (List.take i.toNat xs).flatMap (be 8) ++ (be 8 r).take j.toNat = (List.take (i + 1).toNat xs).flatMap (be 8) := by
  rw [take_succI h0 hr, List.take_of_length_le (l := be 8 r) (by rw [be_len]; omega)]; simp

set_option maxRecDepth 100000 in
set_option maxHeartbeats 4000000 in
theorem fTags_c {A : Option Addr} {cp : Nat} {xs : List Nat} {w : World} (hA : SlAt u64C 1 29 A xs w) (hn : xs.length ≤ 1000) : Calls Tryz.prog 64 #[.slice A xs.length cp] w fun e w' => e = .returned (.string ⟨(xs.flatMap (be 8)).toArray⟩) ∧ Adds w w' := by
  have K : Keeps (fun _ => False) w w := Keeps.refl _ w
  refine Calls.start Tryz.func64 rfl (by kernel_rfl) ?_
  refine WC.seq ?_
  refine WC.region ?_
  refine WL.op (d := 2) (.string ⟨#[]⟩) (k := ?_)
  refine WL.nil ?_
  refine WX.seqN ?_
  refine WC.seq ?_
  refine WC.region ?_
  refine WL.new (d := 3) (T := 138) #[.pointer none, .slice none 0 0] (k := fun b1 w2 g3 hb4 k5 => ?_)
  have z6 := Nat.le_trans K.size g3
  replace K := K.trans (k5.any _)
  have hw7 := BuR.newW hb4
  have lk8 : WLink w none none := .inl rfl
  clear hb4
  refine WL.nil ?_
  refine WX.seqN ?_
  refine WC.seq ?_
  refine WC.seq ?_
  refine WC.region ?_
  refine WL.op (d := 7) (.slice A xs.length cp) (k := ?_)
  refine WL.op (d := 8) (.int .i64 (xs.length : Int)) (k := ?_)
  refine WL.op (d := 9) (.int .i64 0) (k := ?_)
  refine WL.nil ?_
  refine WX.seqN ?_
  refine WC.block ?_
  rw [show ([] : List UInt8) = (List.take (0 : Int).toNat xs).flatMap (be 8) from rfl] at hw7
  refine WC.loop (ι := Int × (Option Nat)) (fun (⟨i, ro⟩ : Int × (Option Nat)) => [(0, .slice A xs.length cp), (2, .string ⟨#[]⟩), (3, .pointer (some ⟨b1, 0, none⟩)), (7, .slice A xs.length cp), (8, .int .i64 (xs.length : Int)), (9, .int .i64 i)]) (fun (⟨i, ro⟩ : Int × (Option Nat)) (w_ : World) => (Keeps (fun _ => False) w w_) ∧ (BuR 138 0 b1 ro ((List.take i.toNat xs).flatMap (be 8)) w_) ∧ (WLink w none ro) ∧ (0 ≤ i) ∧ (i ≤ xs.length)) (fun (⟨i, ro⟩ : Int × (Option Nat)) => (xs.length - i).toNat) (0, none) ⟨(by kernel_rfl), (by kernel_rfl), (by kernel_rfl), (by kernel_rfl), (by kernel_rfl), (by kernel_rfl), trivial⟩ ⟨K, hw7, lk8, Int.le_refl 0, (by omega)⟩ ?_
  rintro ⟨i, ro⟩ w9 ⟨K, hb10, lk11, i0, i1⟩
  have lu_ := ou_len xs i.toNat
  refine WC.seq ?_
  refine WC.region ?_
  refine WL.op (d := 10) (.bool (decide (i < (xs.length : Int)))) (k := ?_)
  refine WL.nil ?_
  refine WX.seqN ?_
  refine WC.seq ?_
  refine WC.cond (b := decide (i < (xs.length : Int))) (ht := fun h12 => ?_) (hf := fun h12 => ?_)
  · have ph12 := of_decide_eq_true h12
    refine WC.skip ?_
    refine WX.seqN ?_
    refine WC.seq ?_
    refine WC.block ?_
    refine WC.seq ?_
    refine WC.region ?_
    obtain ⟨b13, o14, r15, hr16, hA17, he18⟩ := SlAt.at hA (i := i) (by omega) (by omega)
    refine WL.rw (t := 7) (v := .slice (some ⟨b13, o14, none⟩) xs.length cp) (congrArg (fun a => Value.slice a xs.length cp) hA17) (k := ?_)
    refine WL.idx (T := 135) (E := 29) (m := 1) (b := b13) (o := o14) (len := xs.length) (cap := cp) (i := i) (kk := .i64) (d := 11) (by omega) (by omega) (k := ?_)
    refine WL.rw (t := 7) (v := .slice A xs.length cp) (congrArg (fun a => Value.slice a xs.length cp) (Eq.symm hA17)) (k := ?_)
    refine WL.load (v := .int .u64 (r15 : Int)) ((he18.adds K).ld0 (T := 29)) (k := ?_)
    refine WL.op (d := 5) (.int .u64 (r15 : Int)) (k := ?_)
    refine WL.nil ?_
    refine WX.seqN ?_
    refine WC.seq ?_
    refine WC.region ?_
    refine WL.op (d := 13) (.int .i64 0) (k := ?_)
    refine WL.nil ?_
    refine WX.seqN ?_
    refine WC.block ?_
    rw [show (List.take i.toNat xs).flatMap (be 8) = (List.take i.toNat xs).flatMap (be 8) ++ (be 8 r15).take (0 : Int).toNat from by simp] at hb10
    refine WC.loop (ι := Int × (Option Nat)) (fun (⟨j, rp⟩ : Int × (Option Nat)) => [(0, .slice A xs.length cp), (2, .string ⟨#[]⟩), (3, .pointer (some ⟨b1, 0, none⟩)), (7, .slice A xs.length cp), (8, .int .i64 (xs.length : Int)), (9, .int .i64 i), (10, .bool (decide (i < (xs.length : Int)))), (11, .pointer (some ⟨b13, o14 + (i).toNat * 1, none⟩)), (12, .int .u64 (r15 : Int)), (5, .int .u64 (r15 : Int)), (13, .int .i64 j)]) (fun (⟨j, rp⟩ : Int × (Option Nat)) (w_ : World) => (Keeps (fun _ => False) w w_) ∧ (BuR 138 0 b1 rp ((List.take i.toNat xs).flatMap (be 8) ++ (be 8 r15).take j.toNat) w_) ∧ (WLink w none rp) ∧ (0 ≤ j) ∧ (j ≤ 8)) (fun (⟨j, rp⟩ : Int × (Option Nat)) => (8 - j).toNat) (0, ro) ⟨(by kernel_rfl), (by kernel_rfl), (by kernel_rfl), (by kernel_rfl), (by kernel_rfl), (by kernel_rfl), (by kernel_rfl), (by kernel_rfl), (by kernel_rfl), (by kernel_rfl), (by kernel_rfl), trivial⟩ ⟨K, hb10, lk11, Int.le_refl 0, (by decide)⟩ ?_
    rintro ⟨j, rp⟩ w19 ⟨K, hb20, lk21, j0, j1⟩
    have lv_ : (List.take j.toNat (be 8 r15)).length ≤ 8 := by first | (simp [be_len]; done) | (simp [be_len]; omega)
    refine WC.seq ?_
    refine WC.region ?_
    refine WL.op (d := 14) (.bool (decide (j < 8))) (k := ?_)
    refine WL.nil ?_
    refine WX.seqN ?_
    refine WC.seq ?_
    refine WC.cond (b := decide (j < 8)) (ht := fun h22 => ?_) (hf := fun h22 => ?_)
    · have ph22 := of_decide_eq_true h22
      refine WC.skip ?_
      refine WX.seqN ?_
      refine WC.seq ?_
      refine WC.block ?_
      refine WC.seq ?_
      refine WC.region ?_
      refine WL.op (d := 15) (.int .i64 j) (k := ?_)
      refine WL.op (d := 6) (.int .i64 j) (k := ?_)
      refine WL.nil ?_
      refine WX.seqN ?_
      refine WC.region ?_
      refine WL.op (d := 16) (.int .u64 (r15 : Int)) (k := ?_)
      refine WL.op (d := 17) (.int .i64 j) (k := ?_)
      refine WL.opE (d := 18) (.int .i64 (IntKind.i64.wrap (7 - j))) (v := .int .i64 (7 - j)) (congrArg (Value.int .i64) (IntWalk.i64_in _ (by omega))) (k := ?_)
      refine WL.opE (d := 19) (.int .i64 (IntKind.i64.wrap (8 * (7 - j)))) (v := .int .i64 (8 * (7 - j))) (congrArg (Value.int .i64) (IntWalk.i64_in _ (by omega))) (k := ?_)
      refine WL.bin (d := 20) (v := .int .u64 ((r15 : Int) / 2 ^ (8 * (7 - j)).toNat)) (shr_runV (k := .u64) (yk := .i64) (x := (r15 : Int)) (y := (8 * (7 - j))) (by omega) (by show _ ≤ 64; omega)) (k := ?_)
      refine WL.rw (t := 20) (v := .int .u64 ((r15 / 256 ^ (8 - 1 - j.toNat) : Nat) : Int)) (congrArg (Value.int .u64) (shr_be j0 (by omega))) (k := ?_)
      have ub23 := u8_lt (UInt8.ofNat ((r15 / 256 ^ (8 - 1 - j.toNat)) % 256))
      refine WL.opE (d := 21) (.int .u8 (IntKind.u8.wrap ((r15 / 256 ^ (8 - 1 - j.toNat) : Nat) : Int))) (v := .int .u8 ((UInt8.ofNat ((r15 / 256 ^ (8 - 1 - j.toNat)) % 256)).toNat : Int)) (congrArg (Value.int .u8) (byte_nat (r15 / 256 ^ (8 - 1 - j.toNat)))) (k := ?_)
      refine WL.callG (d := 22) (f := 78) (args := #[.pointer (some ⟨b1, 0, none⟩), .int .u8 ((UInt8.ofNat ((r15 / 256 ^ (8 - 1 - j.toNat)) % 256)).toNat : Int)]) (bWriteByte_s _ _ _ ((UInt8.ofNat ((r15 / 256 ^ (8 - 1 - j.toNat)) % 256))) _ hb20 (by (try simp only [List.length_append, List.length_nil]); omega)) (k := fun e_ w24 h_ => ?_)
      obtain ⟨rfl, r25, hw26, n27, k28⟩ := h_
      refine ⟨_, rfl, ?_⟩
      have lk29 := lk21.step K n27
      replace K := K.trans' k28 (WLink.own lk21 z6 _)
      clear hb20 n27 lk21
      refine WL.nil ?_
      refine WX.blockN ?_
      refine WX.seqN ?_
      refine WC.region ?_
      refine WL.opE (d := 23) (.int .i64 (IntKind.i64.wrap (j + 1))) (v := .int .i64 (j + 1)) (congrArg (Value.int .i64) (IntWalk.i64_in _ (by omega))) (k := ?_)
      refine WL.op (d := 13) (.int .i64 (j + 1)) (k := ?_)
      refine WL.nil ?_
      have e30 : (List.take i.toNat xs).flatMap (be 8) ++ (be 8 r15).take j.toNat ++ [(UInt8.ofNat ((r15 / 256 ^ (8 - 1 - j.toNat)) % 256))] = (List.take i.toNat xs).flatMap (be 8) ++ (be 8 r15).take (j + 1).toNat := ou_step j0 (by omega)
      rw [e30] at hw26
      refine WX.round (j + 1, r25) (by show (8 - (j + 1)).toNat < (8 - j).toNat; omega) ⟨(by kernel_rfl), (by kernel_rfl), (by kernel_rfl), (by kernel_rfl), (by kernel_rfl), (by kernel_rfl), (by kernel_rfl), (by kernel_rfl), (by kernel_rfl), (by kernel_rfl), (by kernel_rfl), trivial⟩ ⟨K, hw26, lk29, (by omega), (by omega)⟩
    · have ph22 := of_decide_eq_false h22
      refine WC.exit ?_
      refine WX.seqE ?_
      refine WX.seqE ?_
      refine WX.blockE ?_
      refine WX.blockN ?_
      refine WX.seqN ?_
      refine WC.region ?_
      refine WL.opE (d := 24) (.int .i64 (IntKind.i64.wrap (i + 1))) (v := .int .i64 (i + 1)) (congrArg (Value.int .i64) (IntWalk.i64_in _ (by omega))) (k := ?_)
      refine WL.op (d := 9) (.int .i64 (i + 1)) (k := ?_)
      refine WL.nil ?_
      have e31 : (List.take i.toNat xs).flatMap (be 8) ++ (be 8 r15).take j.toNat = (List.take (i + 1).toNat xs).flatMap (be 8) := ou_succ i0 hr16 (by omega)
      rw [e31] at hb20
      refine WX.round (i + 1, rp) (by show (xs.length - (i + 1)).toNat < (xs.length - i).toNat; omega) ⟨(by kernel_rfl), (by kernel_rfl), (by kernel_rfl), (by kernel_rfl), (by kernel_rfl), (by kernel_rfl), trivial⟩ ⟨K, hb20, lk21, (by omega), (by omega)⟩
  · have ph12 := of_decide_eq_false h12
    refine WC.exit ?_
    refine WX.seqE ?_
    refine WX.seqE ?_
    refine WX.blockE ?_
    refine WX.seqN ?_
    refine WC.seq ?_
    refine WC.region ?_
    refine WL.callG (d := 25) (f := 79) (args := #[.pointer (some ⟨b1, 0, none⟩)]) (bString_s _ _ _ _ hb10 (by (try simp only [List.length_append, List.length_nil]); omega)) (k := fun e_ w32 h_ => ?_)
    obtain ⟨rfl, r33, hw34, n35, k36⟩ := h_
    refine ⟨_, rfl, ?_⟩
    have lk37 := lk11.step K n35
    replace K := K.trans' k36 (WLink.own lk11 z6 _)
    clear hb10 n35 lk11
    refine WL.op (d := 2) (.string ⟨((List.take i.toNat xs).flatMap (be 8)).toArray⟩) (k := ?_)
    refine WL.nil ?_
    refine WX.seqN ?_
    refine WC.ret ?_
    refine WX.ret (rs := [.tmp 2]) [.string ⟨((List.take i.toNat xs).flatMap (be 8)).toArray⟩] (.string ⟨((List.take i.toNat xs).flatMap (be 8)).toArray⟩) ⟨(by kernel_rfl), trivial⟩ (k := ?_)
    have e_ : List.take i.toNat xs = xs := List.take_of_length_le (by omega)
    exact ⟨by rw [e_], K⟩

theorem fTags2_c {b e n fz : Nat} {w : World} (hb : w.heap[b]? = some (.cells #[.int .u64 (e : Int), .int .u64 (n : Int)] 29 (0, fz))) : Calls Tryz.prog 64 #[.slice (some ⟨b, 0, none⟩) 2 2] w fun e_ w' => e_ = .returned (.string ⟨(tagsS e n).toArray⟩) ∧ Adds w w' := by
  refine (fTags_c (cp := 2) (xs := [e, n]) (SlAt.of_lit ekU64 hb rfl) (by simp)).mono ?_
  rintro e_ w' ⟨h1, h2⟩
  exact ⟨by rw [h1]; simp [tagsS], h2⟩

set_option maxRecDepth 100000 in
set_option maxHeartbeats 4000000 in
theorem trim0_c {l : List UInt8} (hm : l.length ≤ 1000000) (w : World) : Calls Tryz.prog 73 #[.string ⟨l.toArray⟩, .string ⟨#[0]⟩] w fun e w' => ∃ r : List UInt8, e = .returned (.string ⟨r.toArray⟩) ∧ (r = [] ↔ ∀ x ∈ l, x = 0) ∧ Adds w w' := by
  have K : Keeps (fun _ => False) w w := Keeps.refl _ w
  refine Calls.start Tryz.func73 rfl (by kernel_rfl) ?_
  refine WC.seq ?_
  refine WC.region ?_
  refine WL.op (d := 4) (.string ⟨#[]⟩) (k := ?_)
  refine WL.nil ?_
  refine WX.seqN ?_
  refine WC.seq ?_
  refine WC.seq ?_
  refine WC.region ?_
  refine WL.op (d := 7) (.string ⟨(l).toArray⟩) (k := ?_)
  refine WL.opE (d := 8) (.bool (ByteArray.toList ⟨(l).toArray⟩ == ByteArray.toList ⟨([]).toArray⟩)) (v := .bool (decide (l = []))) (str_eql _ _) (k := ?_)
  refine WL.op (d := 9) (.bool (decide (l = []))) (k := ?_)
  refine bsplit (decide (l = [])) (fun h1 => ?_) (fun h1 => ?_)
  · have ph1 := of_decide_eq_true h1
    refine WL.rw (t := 9) (v := .bool true) (congrArg Value.bool h1) (k := ?_)
    refine WL.skip (d := 10) (k := ?_)
    refine WL.skip (d := 11) (k := ?_)
    refine WL.op (d := 12) (.bool true) (k := ?_)
    refine WL.nil ?_
    refine WX.seqN ?_
    refine WC.condT (k := ?_)
    refine WC.seq ?_
    refine WC.region ?_
    refine WL.op (d := 13) (.string ⟨(l).toArray⟩) (k := ?_)
    refine WL.op (d := 4) (.string ⟨(l).toArray⟩) (k := ?_)
    refine WL.nil ?_
    refine WX.seqN ?_
    refine WC.ret ?_
    refine WX.seqR ?_
    refine WX.ret (rs := [.tmp 4]) [.string ⟨(l).toArray⟩] (.string ⟨(l).toArray⟩) ⟨(by kernel_rfl), trivial⟩ (k := ?_)
    exact ⟨l, rfl, ⟨fun e => by rw [e]; simp, fun _ => (by first | assumption | (simp_all; done))⟩, K⟩
  · have ph1 := of_decide_eq_false h1
    refine WL.rw (t := 9) (v := .bool false) (congrArg Value.bool h1) (k := ?_)
    refine WL.op (d := 10) (.string ⟨#[0]⟩) (k := ?_)
    refine WL.op (d := 11) (.bool false) (k := ?_)
    refine WL.op (d := 12) (.bool false) (k := ?_)
    refine WL.nil ?_
    refine WX.seqN ?_
    refine WC.condF (k := ?_)
    refine WC.skip ?_
    refine WX.seqN ?_
    refine WC.seq ?_
    refine WC.seq ?_
    refine WC.region ?_
    refine WL.op (d := 14) (.string ⟨#[0]⟩) (k := ?_)
    refine WL.op (d := 15) (.int .i64 1) (k := ?_)
    refine WL.op (d := 16) (.bool true) (k := ?_)
    refine WL.op (d := 17) (.bool true) (k := ?_)
    refine WL.op (d := 18) (.string ⟨#[0]⟩) (k := ?_)
    refine WL.op (d := 19) (.int .u8 0) (k := ?_)
    refine WL.op (d := 20) (.bool true) (k := ?_)
    refine WL.op (d := 21) (.bool true) (k := ?_)
    refine WL.nil ?_
    refine WX.seqN ?_
    refine WC.condT (k := ?_)
    refine WC.seq ?_
    refine WC.mixed (fun _ => False) 7 (k := fun w2 k3 => ?_)
    replace K := K.trans (k3.any _)
    have KC := Keeps.refl (fun _ => False) w2
    have Kb := K
    refine WA.quiet 0 (d := 22) (.string ⟨(l).toArray⟩) KC (hi := rfl) (k := ?_)
    refine WA.quiet 1 (d := 23) (.string ⟨#[0]⟩) KC (hi := rfl) (k := ?_)
    refine WA.quiet 2 (d := 24) (.int .u8 0) KC (hi := rfl) (k := ?_)
    refine WA.quiet 4 (d := 26) (.string ⟨#[0]⟩) KC (hi := rfl) (k := ?_)
    refine WA.quiet 5 (d := 27) (.int .u8 0) KC (hi := rfl) (k := ?_)
    refine WA.step 3 (hi := rfl) (k := ?_)
    refine WL.callG (d := 25) (f := 87) (args := #[.string ⟨(l).toArray⟩, .int .u8 0]) (trimRB_c (l := l) (0) (by show List.length l ≤ _; first | omega | (simp; done) | (simp; omega)) w2) (k := fun e_ w4 h_ => ?_)
    obtain ⟨n5, hn6, rfl, hz7, ho8, k9⟩ := h_
    refine ⟨_, rfl, ?_⟩
    replace K := K.trans (k9.any _)
    replace KC := KC.trans (k9.any _)
    refine WL.nil ?_
    refine WX.nxt KC ?_
    refine WA.step 6 (hi := rfl) (k := ?_)
    refine WL.callG (d := 28) (f := 86) (args := #[.string ⟨(List.take n5 l).toArray⟩, .int .u8 0]) (trimLB_c (l := List.take n5 l) (0) (by show List.length (List.take n5 l) ≤ _; first | omega | (simp; done) | (simp; omega)) w4) (k := fun e_ w10 h_ => ?_)
    obtain ⟨n11, hn12, rfl, hz13, ho14, k15⟩ := h_
    refine ⟨_, rfl, ?_⟩
    replace K := K.trans (k15.any _)
    replace KC := KC.trans (k15.any _)
    refine WL.nil ?_
    refine WX.nxt KC ?_
    refine WA.step 7 (hi := rfl) (k := ?_)
    refine WL.op (d := 4) (.string ⟨(List.drop n11 (List.take n5 l)).toArray⟩) (k := ?_)
    refine WL.nil ?_
    refine WX.nxtL ?_
    refine WA.done (k := ?_)
    clear KC
    refine WX.seqN ?_
    refine WC.ret ?_
    refine WX.seqR ?_
    refine WX.ret (rs := [.tmp 4]) [.string ⟨(List.drop n11 (List.take n5 l)).toArray⟩] (.string ⟨(List.drop n11 (List.take n5 l)).toArray⟩) ⟨(by kernel_rfl), trivial⟩ (k := ?_)
    exact ⟨_, rfl, trim_iff hn6 hz7 ho8 hn12 hz13, K⟩

end Go.Proofs.YtdoenmokahbeaaaGreatDoor
