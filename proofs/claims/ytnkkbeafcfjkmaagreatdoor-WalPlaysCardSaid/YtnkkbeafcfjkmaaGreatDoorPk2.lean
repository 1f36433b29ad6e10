/- Fr4, Fr5, Fr6, Fr7, Fr8a, DkA: one behind the other. -/
import Derived.Test.YtnkkbeafcfjkmaaGreatDoorPk1
namespace Go.Proofs.YtnkkbeafcfjkmaaGreatDoor
open Go.RowKit
set_option linter.unusedVariables false
set_option linter.unusedSimpArgs false
theorem div_succ {n : Nat} {i : Int} (h : 0 ≤ i) : n / 256 ^ i.toNat / 256 = n / 256 ^ (i + 1).toNat := by
  rw [Nat.div_div_eq_div_mul, ← Nat.pow_succ, show (i + 1).toNat = i.toNat + 1 by omega]
theorem be_step {n : Nat} {i : Int} (h : 0 ≤ i) : [UInt8.ofNat (n / 256 ^ i.toNat % 256 % 256)] ++ be i.toNat n = be (i + 1).toNat n := by
  rw [show (i + 1).toNat = i.toNat + 1 by omega, be_cons, Nat.mod_mod]; rfl
set_option maxRecDepth 100000 in
set_option maxHeartbeats 4000000 in
theorem u04eight_c {n : Nat} (hn : n < 18446744073709551616) (w : World) : Calls Tryz.prog 47 #[.int .u64 (n : Int)] w fun e w' => e = .returned (.string ⟨(be 8 n).toArray⟩) ∧ Adds w w' := by
  have K : Keeps (fun _ => False) w w := Keeps.refl _ w
  refine Calls.start Tryz.func47 rfl (by kernel_rfl) ?_
  refine WC.seq ?_
  refine WC.region ?_
  refine WL.op (d := 2) (.string ⟨#[]⟩) (k := ?_)
  refine WL.nil ?_
  refine WX.seqN ?_
  refine WC.seq ?_
  refine WC.region ?_
  refine WL.op (d := 3) (.string ⟨#[]⟩) (k := ?_)
  refine WL.nil ?_
  refine WX.seqN ?_
  refine WC.seq ?_
  refine WC.seq ?_
  refine WC.region ?_
  refine WL.op (d := 4) (.int .i64 0) (k := ?_)
  refine WL.nil ?_
  refine WX.seqN ?_
  refine WC.block ?_
  refine WC.rw (t := 0) (v := .int .u64 ((n / 256 ^ (0 : Int).toNat : Nat) : Int)) (congrArg (fun n : Nat => Value.int .u64 (n : Int)) (show n = n / 256 ^ (0 : Int).toNat by simp)) (k := ?_)
  refine WC.rw (t := 3) (v := .string ⟨(be (0 : Int).toNat n).toArray⟩) (congrArg (fun l : List UInt8 => Value.string ⟨l.toArray⟩) rfl) (k := ?_)
  refine WC.loop (ι := Int) (fun (i : Int) => [(2, .string ⟨#[]⟩), (4, .int .i64 i), (0, .int .u64 ((n / 256 ^ i.toNat : Nat) : Int)), (3, .string ⟨(be i.toNat n).toArray⟩)]) (fun (i : Int) (w_ : World) => (Keeps (fun _ => False) w w_) ∧ (0 ≤ i) ∧ (i ≤ 8)) (fun (i : Int) => (8 - i).toNat) 0 ⟨(by kernel_rfl), (by kernel_rfl), (by kernel_rfl), (by kernel_rfl), trivial⟩ ⟨K, Int.le_refl 0, (by decide)⟩ ?_
  rintro i w1 ⟨K, i0, i1⟩
  have dl_ : n / 256 ^ i.toNat < 18446744073709551616 := Nat.lt_of_le_of_lt (Nat.div_le_self _ _) hn
  have bl_ := be_len i.toNat n
  refine WC.seq ?_
  refine WC.seq ?_
  refine WC.region ?_
  refine WL.op (d := 5) (.int .i64 i) (k := ?_)
  refine WL.op (d := 6) (.bool (decide (i < 8))) (k := ?_)
  refine WL.nil ?_
  refine WX.seqN ?_
  refine WC.cond (b := decide (i < 8)) (ht := fun h2 => ?_) (hf := fun h2 => ?_)
  · have ph2 := of_decide_eq_true h2
    refine WC.skip ?_
    refine WX.seqN ?_
    refine WC.seq ?_
    refine WC.block ?_
    refine WC.seq ?_
    refine WC.region ?_
    refine WL.op (d := 9) (.int .u64 ((n / 256 ^ i.toNat : Nat) : Int)) (k := ?_)
    refine WL.bin (d := 10) (v := .int .u64 (Int.tmod ((n / 256 ^ i.toNat : Nat) : Int) 256)) (rem_run (by omega)) (k := ?_)
    refine WL.rw (t := 10) (v := .int .u64 (((n / 256 ^ i.toNat) % 256 : Nat) : Int)) (congrArg (Value.int .u64) (tmod_nat (n / 256 ^ i.toNat) 256)) (k := ?_)
    have ub3 := u8_lt (UInt8.ofNat (((n / 256 ^ i.toNat) % 256) % 256))
    refine WL.opE (d := 11) (.int .u8 (IntKind.u8.wrap (((n / 256 ^ i.toNat) % 256 : Nat) : Int))) (v := .int .u8 ((UInt8.ofNat (((n / 256 ^ i.toNat) % 256) % 256)).toNat : Int)) (congrArg (Value.int .u8) (byte_nat ((n / 256 ^ i.toNat) % 256))) (k := ?_)
    refine WL.newF (d := 12) (T := 5) #[.int .u8 ((UInt8.ofNat (((n / 256 ^ i.toNat) % 256) % 256)).toNat : Int)] (fun b => .slice (some ⟨b, 0, none⟩) 1 1) (k := fun b4 w5 g6 hb7 k8 => ?_)
    have z9 := Nat.le_trans K.size g6
    replace K := K.trans (k8.any _)
    refine WL.conv (d := 13) (vx := .slice (some ⟨b4, 0, none⟩) 1 1) (v := .string ⟨#[(UInt8.ofNat (((n / 256 ^ i.toNat) % 256) % 256))]⟩) (run_ofBytes (T := 61) (S := 9) (E := 5) (l := [(UInt8.ofNat (((n / 256 ^ i.toNat) % 256) % 256))]) (by kernel_rfl) (by kernel_rfl) (by kernel_rfl) hb7 rfl (by kernel_rfl)) (k := ?_)
    refine WL.op (d := 14) (.string ⟨(be i.toNat n).toArray⟩) (k := ?_)
    refine WL.bin (d := 15) (v := .string ⟨([(UInt8.ofNat (((n / 256 ^ i.toNat) % 256) % 256))] ++ (be i.toNat n)).toArray⟩) (cat_run (by (try simp only [List.length_append, List.length_cons, List.length_nil]); omega)) (k := ?_)
    refine WL.op (d := 3) (.string ⟨([(UInt8.ofNat (((n / 256 ^ i.toNat) % 256) % 256))] ++ (be i.toNat n)).toArray⟩) (k := ?_)
    refine WL.nil ?_
    refine WX.seqN ?_
    refine WC.region ?_
    refine WL.op (d := 16) (.int .u64 ((n / 256 ^ i.toNat : Nat) : Int)) (k := ?_)
    refine WL.bin (d := 17) (v := .int .u64 (IntKind.u64.wrap (Int.tdiv ((n / 256 ^ i.toNat : Nat) : Int) 256))) (quo_run (by omega)) (k := ?_)
    refine WL.rw (t := 17) (v := .int .u64 (((n / 256 ^ i.toNat) / 256 : Nat) : Int)) (congrArg (Value.int .u64) (quo64 256 (by omega))) (k := ?_)
    refine WL.op (d := 0) (.int .u64 (((n / 256 ^ i.toNat) / 256 : Nat) : Int)) (k := ?_)
    refine WL.nil ?_
    refine WX.blockN ?_
    refine WX.seqN ?_
    refine WC.region ?_
    refine WL.op (d := 7) (.int .i64 i) (k := ?_)
    refine WL.opE (d := 8) (.int .i64 (IntKind.i64.wrap (i + 1))) (v := .int .i64 (i + 1)) (congrArg (Value.int .i64) (IntWalk.i64_in _ (by omega))) (k := ?_)
    refine WL.op (d := 4) (.int .i64 (i + 1)) (k := ?_)
    refine WL.nil ?_
    refine WX.rw (t := 0) (v := .int .u64 ((n / 256 ^ (i + 1).toNat : Nat) : Int)) (congrArg (fun n : Nat => Value.int .u64 (n : Int)) (div_succ i0)) (k := ?_)
    refine WX.rw (t := 3) (v := .string ⟨(be (i + 1).toNat n).toArray⟩) (congrArg (fun l : List UInt8 => Value.string ⟨l.toArray⟩) (be_step i0)) (k := ?_)
    refine WX.round (i + 1) (by show (8 - (i + 1)).toNat < (8 - i).toNat; omega) ⟨(by kernel_rfl), (by kernel_rfl), (by kernel_rfl), (by kernel_rfl), trivial⟩ ⟨K, (by omega), (by omega)⟩
  · have ph2 := of_decide_eq_false h2
    refine WC.exit ?_
    refine WX.seqE ?_
    refine WX.seqE ?_
    refine WX.blockE ?_
    refine WX.seqN ?_
    refine WC.seq ?_
    refine WC.region ?_
    refine WL.op (d := 18) (.string ⟨(be i.toNat n).toArray⟩) (k := ?_)
    refine WL.op (d := 2) (.string ⟨(be i.toNat n).toArray⟩) (k := ?_)
    refine WL.nil ?_
    refine WX.seqN ?_
    refine WC.ret ?_
    refine WX.ret (rs := [.tmp 2]) [.string ⟨(be i.toNat n).toArray⟩] (.string ⟨(be i.toNat n).toArray⟩) ⟨(by kernel_rfl), trivial⟩ (k := ?_)
    obtain rfl : i = 8 := by omega
    exact ⟨rfl, K⟩
set_option maxRecDepth 100000 in
set_option maxHeartbeats 4000000 in
theorem u04number_c {l : List UInt8} (hl : l.length = 8) (w : World) : Calls Tryz.prog 57 #[.string ⟨l.toArray⟩] w fun e w' => e = .returned (.int .u64 ((beval l : Nat) : Int)) ∧ Adds w w' := by
  have K : Keeps (fun _ => False) w w := Keeps.refl _ w
  refine Calls.start Tryz.func57 rfl (by kernel_rfl) ?_
  refine WC.seq ?_
  refine WC.region ?_
  refine WL.op (d := 2) (.int .u64 0) (k := ?_)
  refine WL.nil ?_
  refine WX.seqN ?_
  refine WC.seq ?_
  refine WC.region ?_
  refine WL.op (d := 3) (.int .u64 0) (k := ?_)
  refine WL.nil ?_
  refine WX.seqN ?_
  refine WC.seq ?_
  refine WC.seq ?_
  refine WC.region ?_
  refine WL.op (d := 4) (.int .i64 0) (k := ?_)
  refine WL.nil ?_
  refine WX.seqN ?_
  refine WC.block ?_
  refine WC.loop (ι := Int) (fun (i : Int) => [(0, .string ⟨(l).toArray⟩), (2, .int .u64 0), (4, .int .i64 i), (3, .int .u64 ((beval (List.take i.toNat l) : Nat) : Int))]) (fun (i : Int) (w_ : World) => (Keeps (fun _ => False) w w_) ∧ (0 ≤ i) ∧ (i ≤ 8)) (fun (i : Int) => (8 - i).toNat) 0 ⟨(by kernel_rfl), (by kernel_rfl), (by kernel_rfl), (by kernel_rfl), trivial⟩ ⟨K, Int.le_refl 0, (by decide)⟩ ?_
  rintro i w1 ⟨K, i0, i1⟩
  refine WC.seq ?_
  refine WC.seq ?_
  refine WC.region ?_
  refine WL.op (d := 5) (.int .i64 i) (k := ?_)
  refine WL.op (d := 6) (.bool (decide (i < 8))) (k := ?_)
  refine WL.nil ?_
  refine WX.seqN ?_
  refine WC.cond (b := decide (i < 8)) (ht := fun h2 => ?_) (hf := fun h2 => ?_)
  · have ph2 := of_decide_eq_true h2
    refine WC.skip ?_
    refine WX.seqN ?_
    refine WC.seq ?_
    refine WC.block ?_
    have bb_ := beval_b56 l (i := i) (by omega)
    refine WC.region ?_
    refine WL.op (d := 9) (.int .u64 ((beval (List.take i.toNat l) : Nat) : Int)) (k := ?_)
    refine WL.opE (d := 10) (.int .u64 (IntKind.u64.wrap (((beval (List.take i.toNat l) : Nat) : Int) * 256))) (v := .int .u64 (((beval (List.take i.toNat l)) * 256 : Nat) : Int)) (congrArg (Value.int .u64) (mul64 (a := (beval (List.take i.toNat l))) (b := 256) (by omega))) (k := ?_)
    refine WL.op (d := 11) (.string ⟨(l).toArray⟩) (k := ?_)
    refine WL.op (d := 12) (.int .i64 i) (k := ?_)
    refine WL.strAt (T := 9) (l := l) (i := i) (kk := .i64) (d := 13) (by omega) (by first | omega | (simp; omega)) (by kernel_rfl) (by kernel_rfl) (by kernel_rfl) (by kernel_rfl) (by kernel_rfl) ?_
    have ub3 := u8_lt (List.getD l (i).toNat 0)
    refine WL.opE (d := 14) (.int .u64 (IntKind.u64.wrap ((List.getD l (i).toNat 0).toNat : Int))) (v := .int .u64 ((List.getD l (i).toNat 0).toNat : Int)) (congrArg (Value.int .u64) (IntWalk.u64_in _ (by omega))) (k := ?_)
    refine WL.opE (d := 15) (.int .u64 (IntKind.u64.wrap ((((beval (List.take i.toNat l)) * 256 : Nat) : Int) + ((List.getD l (i).toNat 0).toNat : Int)))) (v := .int .u64 (((beval (List.take i.toNat l)) * 256 + ((List.getD l (i).toNat 0).toNat) : Nat) : Int)) (congrArg (Value.int .u64) (add64 (a := ((beval (List.take i.toNat l)) * 256)) (b := ((List.getD l (i).toNat 0).toNat)) (by omega))) (k := ?_)
    refine WL.op (d := 3) (.int .u64 (((beval (List.take i.toNat l)) * 256 + ((List.getD l (i).toNat 0).toNat) : Nat) : Int)) (k := ?_)
    refine WL.nil ?_
    refine WX.blockN ?_
    refine WX.seqN ?_
    refine WC.region ?_
    refine WL.op (d := 7) (.int .i64 i) (k := ?_)
    refine WL.opE (d := 8) (.int .i64 (IntKind.i64.wrap (i + 1))) (v := .int .i64 (i + 1)) (congrArg (Value.int .i64) (IntWalk.i64_in _ (by omega))) (k := ?_)
    refine WL.op (d := 4) (.int .i64 (i + 1)) (k := ?_)
    refine WL.nil ?_
    refine WX.rw (t := 3) (v := .int .u64 ((beval (List.take (i + 1).toNat l) : Nat) : Int)) (congrArg (fun n : Nat => Value.int .u64 (n : Int)) (beU_succ i0 (by omega))) (k := ?_)
    refine WX.round (i + 1) (by show (8 - (i + 1)).toNat < (8 - i).toNat; omega) ⟨(by kernel_rfl), (by kernel_rfl), (by kernel_rfl), (by kernel_rfl), trivial⟩ ⟨K, (by omega), (by omega)⟩
  · have ph2 := of_decide_eq_false h2
    refine WC.exit ?_
    refine WX.seqE ?_
    refine WX.seqE ?_
    refine WX.blockE ?_
    refine WX.seqN ?_
    refine WC.seq ?_
    refine WC.region ?_
    refine WL.op (d := 16) (.int .u64 ((beval (List.take i.toNat l) : Nat) : Int)) (k := ?_)
    refine WL.op (d := 2) (.int .u64 ((beval (List.take i.toNat l) : Nat) : Int)) (k := ?_)
    refine WL.nil ?_
    refine WX.seqN ?_
    refine WC.ret ?_
    refine WX.ret (rs := [.tmp 2]) [.int .u64 ((beval (List.take i.toNat l) : Nat) : Int)] (.int .u64 ((beval (List.take i.toNat l) : Nat) : Int)) ⟨(by kernel_rfl), trivial⟩ (k := ?_)
    have e_ : List.take i.toNat l = l := List.take_of_length_le (by omega)
    exact ⟨by rw [e_], K⟩
set_option maxRecDepth 100000 in
set_option maxHeartbeats 4000000 in
theorem fTag1_c {a : Nat} {l : List UInt8} {bx : Nat} {w : World} (hl : l.length = 64) (ha : a ≤ 56) (hx : w.heap[bx]? = some (.cells #[.string ⟨l.toArray⟩] 9 (0, 0))) : Calls Tryz.prog 63 #[.int .i64 (a : Int), .pointer (some ⟨bx, 0, none⟩)] w fun e w' => e = .returned (.int .u64 ((beval (List.take 8 (List.drop a l)) : Nat) : Int)) ∧ Adds w w' := by
  have K : Keeps (fun _ => False) w w := Keeps.refl _ w
  refine Calls.start Tryz.func63 rfl (by kernel_rfl) ?_
  refine WC.seq ?_
  refine WC.region ?_
  refine WL.op (d := 3) (.int .u64 0) (k := ?_)
  refine WL.nil ?_
  refine WX.seqN ?_
  refine WC.seq ?_
  refine WC.region ?_
  refine WL.op (d := 4) (.int .u64 0) (k := ?_)
  refine WL.nil ?_
  refine WX.seqN ?_
  refine WC.seq ?_
  refine WC.seq ?_
  refine WC.region ?_
  refine WL.op (d := 6) (.int .i64 0) (k := ?_)
  refine WL.nil ?_
  refine WX.seqN ?_
  refine WC.block ?_
  refine WC.loop (ι := Int) (fun (i : Int) => [(0, .int .i64 (a : Int)), (1, .pointer (some ⟨bx, 0, none⟩)), (3, .int .u64 0), (6, .int .i64 i), (4, .int .u64 ((beval (List.take i.toNat (List.drop a l)) : Nat) : Int))]) (fun (i : Int) (w_ : World) => (Keeps (fun _ => False) w w_) ∧ (0 ≤ i) ∧ (i ≤ 8)) (fun (i : Int) => (8 - i).toNat) 0 ⟨(by kernel_rfl), (by kernel_rfl), (by kernel_rfl), (by kernel_rfl), (by kernel_rfl), trivial⟩ ⟨K, Int.le_refl 0, (by decide)⟩ ?_
  rintro i w1 ⟨K, i0, i1⟩
  refine WC.seq ?_
  refine WC.region ?_
  refine WL.op (d := 7) (.bool (decide (i < 8))) (k := ?_)
  refine WL.nil ?_
  refine WX.seqN ?_
  refine WC.seq ?_
  refine WC.cond (b := decide (i < 8)) (ht := fun h2 => ?_) (hf := fun h2 => ?_)
  · have ph2 := of_decide_eq_true h2
    refine WC.skip ?_
    refine WX.seqN ?_
    refine WC.seq ?_
    refine WC.block ?_
    refine WC.seq ?_
    refine WC.region ?_
    refine WL.op (d := 8) (.int .i64 i) (k := ?_)
    refine WL.op (d := 5) (.int .i64 i) (k := ?_)
    refine WL.nil ?_
    refine WX.seqN ?_
    have bb_ := beval_b56 (List.drop a l) (i := i) (by omega)
    refine WC.region ?_
    refine WL.op (d := 9) (.int .u64 ((beval (List.take i.toNat (List.drop a l)) : Nat) : Int)) (k := ?_)
    refine WL.bin (d := 10) (v := .int .u64 (IntKind.u64.wrap (((beval (List.take i.toNat (List.drop a l)) : Nat) : Int) * 256))) (shl_run (k := .u64) (yk := .u64) (x := ((beval (List.take i.toNat (List.drop a l)) : Nat) : Int)) (y := 8) (c := 256) (by decide) (by decide) (by decide)) (k := ?_)
    refine WL.rw (t := 10) (v := .int .u64 (((beval (List.take i.toNat (List.drop a l))) * 256 : Nat) : Int)) (congrArg (Value.int .u64) (shl64 (a := (beval (List.take i.toNat (List.drop a l)))) (by omega))) (k := ?_)
    refine WL.load (v := .string ⟨(l).toArray⟩) (ld1 (T := 9) (i := 0) (K.heap hx id)) (k := ?_)
    refine WL.op (d := 12) (.int .i64 (a : Int)) (k := ?_)
    refine WL.op (d := 13) (.int .i64 i) (k := ?_)
    refine WL.opE (d := 14) (.int .i64 (IntKind.i64.wrap ((a : Int) + i))) (v := .int .i64 ((a : Int) + i)) (congrArg (Value.int .i64) (IntWalk.i64_in _ (by omega))) (k := ?_)
    refine WL.strAt (T := 9) (l := l) (i := (a : Int) + i) (kk := .i64) (d := 15) (by omega) (by first | omega | (simp; omega)) (by kernel_rfl) (by kernel_rfl) (by kernel_rfl) (by kernel_rfl) (by kernel_rfl) ?_
    have ub3 := u8_lt (List.getD l ((a : Int) + i).toNat 0)
    refine WL.opE (d := 16) (.int .u64 (IntKind.u64.wrap ((List.getD l ((a : Int) + i).toNat 0).toNat : Int))) (v := .int .u64 ((List.getD l ((a : Int) + i).toNat 0).toNat : Int)) (congrArg (Value.int .u64) (IntWalk.u64_in _ (by omega))) (k := ?_)
    refine WL.bin (d := 17) (v := .int .u64 (bits BinOp.or IntKind.u64 (((beval (List.take i.toNat (List.drop a l))) * 256 : Nat) : Int) ((List.getD l ((a : Int) + i).toNat 0).toNat : Int))) (bits_run (by decide)) (k := ?_)
    refine WL.rw (t := 17) (v := .int .u64 (((beval (List.take i.toNat (List.drop a l))) * 256 + ((List.getD l ((a : Int) + i).toNat 0).toNat) : Nat) : Int)) (congrArg (Value.int .u64) (bits_or64 (by omega) (by omega))) (k := ?_)
    refine WL.op (d := 4) (.int .u64 (((beval (List.take i.toNat (List.drop a l))) * 256 + ((List.getD l ((a : Int) + i).toNat 0).toNat) : Nat) : Int)) (k := ?_)
    refine WL.nil ?_
    refine WX.blockN ?_
    refine WX.seqN ?_
    refine WC.region ?_
    refine WL.opE (d := 18) (.int .i64 (IntKind.i64.wrap (i + 1))) (v := .int .i64 (i + 1)) (congrArg (Value.int .i64) (IntWalk.i64_in _ (by omega))) (k := ?_)
    refine WL.op (d := 6) (.int .i64 (i + 1)) (k := ?_)
    refine WL.nil ?_
    refine WX.rw (t := 4) (v := .int .u64 ((beval (List.take (i + 1).toNat (List.drop a l)) : Nat) : Int)) (congrArg (fun n : Nat => Value.int .u64 (n : Int)) (beAt_succ i0 (by omega))) (k := ?_)
    refine WX.round (i + 1) (by show (8 - (i + 1)).toNat < (8 - i).toNat; omega) ⟨(by kernel_rfl), (by kernel_rfl), (by kernel_rfl), (by kernel_rfl), (by kernel_rfl), trivial⟩ ⟨K, (by omega), (by omega)⟩
  · have ph2 := of_decide_eq_false h2
    refine WC.exit ?_
    refine WX.seqE ?_
    refine WX.seqE ?_
    refine WX.blockE ?_
    refine WX.seqN ?_
    refine WC.seq ?_
    refine WC.region ?_
    refine WL.op (d := 19) (.int .u64 ((beval (List.take i.toNat (List.drop a l)) : Nat) : Int)) (k := ?_)
    refine WL.op (d := 3) (.int .u64 ((beval (List.take i.toNat (List.drop a l)) : Nat) : Int)) (k := ?_)
    refine WL.nil ?_
    refine WX.seqN ?_
    refine WC.ret ?_
    refine WX.ret (rs := [.tmp 3]) [.int .u64 ((beval (List.take i.toNat (List.drop a l)) : Nat) : Int)] (.int .u64 ((beval (List.take i.toNat (List.drop a l)) : Nat) : Int)) ⟨(by kernel_rfl), trivial⟩ (k := ?_)
    obtain rfl : i = 8 := by omega
    exact ⟨rfl, K⟩
set_option maxRecDepth 100000 in
set_option maxHeartbeats 4000000 in
theorem fTag_c {l : List UInt8} (hm : l.length ≤ 1000000) (w : World) : Calls Tryz.prog 52 #[.string ⟨l.toArray⟩] w fun e w' => e = .returned (.tuple #[.int .u64 (tgE l : Int), .int .u64 (tgN l : Int), .bool (decide (l.length = 64))]) ∧ Adds w w' := by
  have K : Keeps (fun _ => False) w w := Keeps.refl _ w
  refine Calls.start Tryz.func52 rfl (by kernel_rfl) ?_
  refine WC.seq ?_
  refine WC.region ?_
  refine WL.new (d := 1) (T := 9) #[.string ⟨(l).toArray⟩] (k := fun b1 w2 g3 hb4 k5 => ?_)
  have z6 := Nat.le_trans K.size g3
  replace K := K.trans (k5.any _)
  refine WL.op (d := 2) (.int .u64 0) (k := ?_)
  refine WL.op (d := 3) (.int .u64 0) (k := ?_)
  refine WL.op (d := 4) (.bool false) (k := ?_)
  refine WL.nil ?_
  refine WX.seqN ?_
  refine WC.seq ?_
  refine WC.seq ?_
  refine WC.region ?_
  refine WL.load (v := .string ⟨(l).toArray⟩) (ld1 (T := 9) (i := 0) hb4) (k := ?_)
  refine WL.op (d := 7) (.int .i64 (l.length : Int)) (k := ?_)
  refine WL.op (d := 8) (.bool ((l.length : Int) != 64)) (k := ?_)
  refine WL.nil ?_
  refine WX.seqN ?_
  refine WC.cond (b := (l.length : Int) != 64) (ht := fun h7 => ?_) (hf := fun h7 => ?_)
  · have ph7 := bne_iff_ne.1 h7
    refine WC.seq ?_
    refine WC.region ?_
    refine WL.op (d := 2) (.int .u64 0) (k := ?_)
    refine WL.op (d := 3) (.int .u64 0) (k := ?_)
    refine WL.op (d := 4) (.bool false) (k := ?_)
    refine WL.nil ?_
    refine WX.seqN ?_
    refine WC.ret ?_
    refine WX.seqR ?_
    refine WX.ret (rs := [.tmp 2, .tmp 3, .tmp 4]) [.int .u64 0, .int .u64 0, .bool false] (.tuple #[.int .u64 0, .int .u64 0, .bool false]) ⟨(by kernel_rfl), (by kernel_rfl), (by kernel_rfl), trivial⟩ (k := ?_)
    have q_ : ¬ l.length = 64 := fun h => ph7 (by omega)
    exact ⟨by rw [tgE_no q_, tgN_no q_, decide_eq_false q_]; rfl, K⟩
  · have ph7 := of_bne_false h7
    refine WC.skip ?_
    refine WX.seqN ?_
    refine WC.seq ?_
    refine WC.region ?_
    refine WL.op (d := 9) (.func (.func 63) #[] #[.pointer (some ⟨b1, 0, none⟩)]) (k := ?_)
    refine WL.op (d := 5) (.func (.func 63) #[] #[.pointer (some ⟨b1, 0, none⟩)]) (k := ?_)
    refine WL.nil ?_
    refine WX.seqN ?_
    refine WC.seq ?_
    refine WC.region ?_
    refine WL.op (d := 10) (.func (.func 63) #[] #[.pointer (some ⟨b1, 0, none⟩)]) (k := ?_)
    refine WL.callG (d := 11) (f := 63) (args := #[.int .i64 48, .pointer (some ⟨b1, 0, none⟩)]) (fTag1_c (a := 48) (l := l) (by omega) (by omega) hb4) (k := fun e_ w8 h_ => ⟨.int .u64 ((beval (List.take 8 (List.drop 48 l)) : Nat) : Int), h_.1, ?_⟩)
    have k9 := h_.2; clear h_
    replace hb4 := k9.heap hb4 id
    replace K := K.trans (k9.any _)
    refine WL.op (d := 12) (.func (.func 63) #[] #[.pointer (some ⟨b1, 0, none⟩)]) (k := ?_)
    refine WL.callG (d := 13) (f := 63) (args := #[.int .i64 56, .pointer (some ⟨b1, 0, none⟩)]) (fTag1_c (a := 56) (l := l) (by omega) (by omega) hb4) (k := fun e_ w10 h_ => ⟨.int .u64 ((beval (List.take 8 (List.drop 56 l)) : Nat) : Int), h_.1, ?_⟩)
    have k11 := h_.2; clear h_
    replace hb4 := k11.heap hb4 id
    replace K := K.trans (k11.any _)
    refine WL.op (d := 2) (.int .u64 ((beval (List.take 8 (List.drop 48 l)) : Nat) : Int)) (k := ?_)
    refine WL.op (d := 3) (.int .u64 ((beval (List.take 8 (List.drop 56 l)) : Nat) : Int)) (k := ?_)
    refine WL.op (d := 4) (.bool true) (k := ?_)
    refine WL.nil ?_
    refine WX.seqN ?_
    refine WC.ret ?_
    refine WX.ret (rs := [.tmp 2, .tmp 3, .tmp 4]) [.int .u64 ((beval (List.take 8 (List.drop 48 l)) : Nat) : Int), .int .u64 ((beval (List.take 8 (List.drop 56 l)) : Nat) : Int), .bool true] (.tuple #[.int .u64 ((beval (List.take 8 (List.drop 48 l)) : Nat) : Int), .int .u64 ((beval (List.take 8 (List.drop 56 l)) : Nat) : Int), .bool true]) ⟨(by kernel_rfl), (by kernel_rfl), (by kernel_rfl), trivial⟩ (k := ?_)
    have q_ : l.length = 64 := by omega
    exact ⟨by rw [tgE_ok q_, tgN_ok q_, decide_eq_true q_], K⟩
set_option maxRecDepth 100000 in
set_option maxHeartbeats 4000000 in
theorem u04Tag_c {l : List UInt8} (hm : l.length ≤ 1000000) (w : World) : Calls Tryz.prog 42 #[.string ⟨l.toArray⟩] w fun e w' => e = .returned (.agg #[.int .u64 (tgE l : Int), .int .u64 (tgN l : Int), .bool (decide (l.length = 64))]) ∧ Adds w w' := by
  have K : Keeps (fun _ => False) w w := Keeps.refl _ w
  refine Calls.start Tryz.func42 rfl (by kernel_rfl) ?_
  refine WC.seq ?_
  refine WC.region ?_
  refine WL.new (d := 2) (T := 89) #[.int .u64 0, .int .u64 0, .bool false] (k := fun b1 w2 g3 hb4 k5 => ?_)
  have z6 := Nat.le_trans K.size g3
  replace K := K.trans (k5.any _)
  refine WL.nil ?_
  refine WX.seqN ?_
  refine WC.seq ?_
  refine WC.seq ?_
  refine WC.region ?_
  refine WL.op (d := 3) (.string ⟨(l).toArray⟩) (k := ?_)
  refine WL.op (d := 4) (.int .i64 (l.length : Int)) (k := ?_)
  refine WL.op (d := 5) (.bool ((l.length : Int) != 64)) (k := ?_)
  refine WL.nil ?_
  refine WX.seqN ?_
  refine WC.cond (b := (l.length : Int) != 64) (ht := fun h7 => ?_) (hf := fun h7 => ?_)
  · have ph7 := bne_iff_ne.1 h7
    refine WC.seq ?_
    refine WC.region ?_
    refine WL.op (d := 6) (.agg #[.int .u64 0, .int .u64 0, .bool false]) (k := ?_)
    refine WL.store (v := .agg #[.int .u64 0, .int .u64 0, .bool false]) (i := 0) (cs' := #[.int .u64 0, .int .u64 0, .bool false]) hb4 (k := fun w8 hb9 k10 => ?_)
    replace K := K.trans' k10 (fun i hi e => absurd (e ▸ hi) (Nat.not_lt.2 z6))
    clear hb4
    refine WL.nil ?_
    refine WX.seqN ?_
    refine WC.ret ?_
    refine WX.seqR ?_
    refine WX.ret (rs := [.cell 2 89]) [.agg #[.int .u64 0, .int .u64 0, .bool false]] (.agg #[.int .u64 0, .int .u64 0, .bool false]) ⟨⟨_, (by kernel_rfl), ldN (T := 89) (i := 0) (m := 3) (l := [.int .u64 0, .int .u64 0, .bool false]) hb9⟩, trivial⟩ (k := ?_)
    have q_ : ¬ l.length = 64 := fun h => ph7 (by omega)
    exact ⟨by rw [tgE_no q_, tgN_no q_, decide_eq_false q_]; rfl, K⟩
  · have ph7 := of_bne_false h7
    refine WC.skip ?_
    refine WX.seqN ?_
    refine WC.seq ?_
    refine WC.tail 7 (k := ?_)
    refine WQ.op (d := 7) (.string ⟨(l).toArray⟩) (k := ?_)
    refine WQ.cut (d := 8) (vx := .string ⟨(l).toArray⟩) (lo' := (some (.int .i64 48))) (hi' := (some (.int .i64 56))) (mx' := none) (v := .string ⟨(List.drop 48 (List.take 56 l)).toArray⟩) (fun w_ => run_cut (P := Tryz.prog) (w := w_) (lo := (some (.int .i64 48))) (hi := (some (.int .i64 56))) (T := 9) (a := 48) (b := 56) (l := l) (by kernel_rfl) (.inr ⟨_, _, rfl, by omega⟩) (.inr ⟨_, _, rfl, by omega⟩) (by first | omega | (simp; omega)) (by first | omega | (simp; omega))) (k := ?_)
    refine WQ.callG (d := 9) (f := 57) (args := #[.string ⟨(List.drop 48 (List.take 56 l)).toArray⟩]) (v := .int .u64 ((beval (List.drop 48 (List.take 56 l)) : Nat) : Int)) (fun w_ k_ => u04number_c (l := List.drop 48 (List.take 56 l)) (by simp; omega) w_) addsR (k := ?_)
    refine WQ.op (d := 10) (.string ⟨(l).toArray⟩) (k := ?_)
    refine WQ.cut (d := 11) (vx := .string ⟨(l).toArray⟩) (lo' := (some (.int .i64 56))) (hi' := none) (mx' := none) (v := .string ⟨(List.drop 56 l).toArray⟩) (fun w_ => (by have h_ := run_cut (P := Tryz.prog) (w := w_) (lo := (some (.int .i64 56))) (hi := none) (T := 9) (a := 56) (b := l.length) (l := l) (by kernel_rfl) (.inr ⟨_, _, rfl, by omega⟩) (.inl ⟨rfl, rfl⟩) (by first | omega | (simp; omega)) (by first | omega | (simp; omega)); rw [List.take_length] at h_; exact h_)) (k := ?_)
    refine WQ.callG (d := 12) (f := 57) (args := #[.string ⟨(List.drop 56 l).toArray⟩]) (v := .int .u64 ((beval (List.drop 56 l) : Nat) : Int)) (fun w_ k_ => u04number_c (l := List.drop 56 l) (by simp; omega) w_) addsR (k := ?_)
    refine WQ.op (d := 13) (.agg #[.int .u64 ((beval (List.drop 48 (List.take 56 l)) : Nat) : Int), .int .u64 ((beval (List.drop 56 l) : Nat) : Int), .bool true]) (k := ?_)
    refine WQ.nilL (fun w11 k12 => ?_)
    replace hb4 := k12.heap hb4 id
    replace K := K.trans (k12.any _)
    refine WL.store (v := .agg #[.int .u64 ((beval (List.drop 48 (List.take 56 l)) : Nat) : Int), .int .u64 ((beval (List.drop 56 l) : Nat) : Int), .bool true]) (i := 0) (cs' := #[.int .u64 ((beval (List.drop 48 (List.take 56 l)) : Nat) : Int), .int .u64 ((beval (List.drop 56 l) : Nat) : Int), .bool true]) hb4 (k := fun w13 hb14 k15 => ?_)
    replace K := K.trans' k15 (fun i hi e => absurd (e ▸ hi) (Nat.not_lt.2 z6))
    clear hb4
    refine WL.nil ?_
    refine WX.seqN ?_
    refine WC.ret ?_
    refine WX.ret (rs := [.cell 2 89]) [.agg #[.int .u64 ((beval (List.drop 48 (List.take 56 l)) : Nat) : Int), .int .u64 ((beval (List.drop 56 l) : Nat) : Int), .bool true]] (.agg #[.int .u64 ((beval (List.drop 48 (List.take 56 l)) : Nat) : Int), .int .u64 ((beval (List.drop 56 l) : Nat) : Int), .bool true]) ⟨⟨_, (by kernel_rfl), ldN (T := 89) (i := 0) (m := 3) (l := [.int .u64 ((beval (List.drop 48 (List.take 56 l)) : Nat) : Int), .int .u64 ((beval (List.drop 56 l) : Nat) : Int), .bool true]) hb14⟩, trivial⟩ (k := ?_)
    have q_ : l.length = 64 := by omega
    exact ⟨by rw [tgE_ok q_, tgN_ok' q_, decide_eq_true q_, List.take_drop], K⟩
theorem flat8_len : ∀ l : List Nat, (l.flatMap (be 8)).length = 8 * l.length
  | [] => rfl
  | x :: l => by simp [List.flatMap_cons, be_len, flat8_len l]; omega
theorem ou_len (xs : List Nat) (k : Nat) : ((List.take k xs).flatMap (be 8)).length ≤ 8 * xs.length := by
  rw [flat8_len, List.length_take]; omega
theorem ou_step {P : List UInt8} {r : Nat} {j : Int} (h0 : 0 ≤ j) (h1 : j < 8) : P ++ (be 8 r).take j.toNat ++ [UInt8.ofNat (r / 256 ^ (8 - 1 - j.toNat) % 256)] = P ++ (be 8 r).take (j + 1).toNat := by
  rw [List.append_assoc, be_take (by omega), show (j + 1).toNat = j.toNat + 1 by omega]
theorem ou_succ {xs : List Nat} {i j : Int} {r : Nat} (h0 : 0 ≤ i) (hr : xs[i.toNat]? = some r) (h : 8 ≤ j) : (List.take i.toNat xs).flatMap (be 8) ++ (be 8 r).take j.toNat = (List.take (i + 1).toNat xs).flatMap (be 8) := by
  rw [take_succI h0 hr, List.take_of_length_le (l := be 8 r) (by rw [be_len]; omega)]; simp
set_option maxRecDepth 100000 in
set_option maxHeartbeats 4000000 in
theorem fTags_c {A : Option Addr} {cp : Nat} {xs : List Nat} {w : World} (hA : SlAt u64C 1 32 A xs w) (hn : xs.length ≤ 1000) : Calls Tryz.prog 58 #[.slice A xs.length cp] w fun e w' => e = .returned (.string ⟨(xs.flatMap (be 8)).toArray⟩) ∧ Adds w w' := by
  have K : Keeps (fun _ => False) w w := Keeps.refl _ w
  refine Calls.start Tryz.func58 rfl (by kernel_rfl) ?_
  refine WC.seq ?_
  refine WC.region ?_
  refine WL.op (d := 2) (.string ⟨#[]⟩) (k := ?_)
  refine WL.nil ?_
  refine WX.seqN ?_
  refine WC.seq ?_
  refine WC.region ?_
  refine WL.new (d := 3) (T := 133) #[.pointer none, .slice none 0 0] (k := fun b1 w2 g3 hb4 k5 => ?_)
  have z6 := Nat.le_trans K.size g3
  replace K := K.trans (k5.any _)
  have hw7 := BuR.newW hb4
  have lk8 : WLink w none none := .inl rfl
  clear hb4
  refine WL.nil ?_
  refine WX.seqN ?_
  refine WC.seq ?_
  refine WC.seq ?_
  refine WC.region ?_
  refine WL.op (d := 7) (.slice A xs.length cp) (k := ?_)
  refine WL.op (d := 8) (.int .i64 (xs.length : Int)) (k := ?_)
  refine WL.op (d := 9) (.int .i64 0) (k := ?_)
  refine WL.nil ?_
  refine WX.seqN ?_
  refine WC.block ?_
  rw [show ([] : List UInt8) = (List.take (0 : Int).toNat xs).flatMap (be 8) from rfl] at hw7
  refine WC.loop (ι := Int × (Option Nat)) (fun (⟨i, ro⟩ : Int × (Option Nat)) => [(0, .slice A xs.length cp), (2, .string ⟨#[]⟩), (3, .pointer (some ⟨b1, 0, none⟩)), (7, .slice A xs.length cp), (8, .int .i64 (xs.length : Int)), (9, .int .i64 i)]) (fun (⟨i, ro⟩ : Int × (Option Nat)) (w_ : World) => (Keeps (fun _ => False) w w_) ∧ (BuR 133 0 b1 ro ((List.take i.toNat xs).flatMap (be 8)) w_) ∧ (WLink w none ro) ∧ (0 ≤ i) ∧ (i ≤ xs.length)) (fun (⟨i, ro⟩ : Int × (Option Nat)) => (xs.length - i).toNat) (0, none) ⟨(by kernel_rfl), (by kernel_rfl), (by kernel_rfl), (by kernel_rfl), (by kernel_rfl), (by kernel_rfl), trivial⟩ ⟨K, hw7, lk8, Int.le_refl 0, (by omega)⟩ ?_
  rintro ⟨i, ro⟩ w9 ⟨K, hb10, lk11, i0, i1⟩
  have lu_ := ou_len xs i.toNat
  refine WC.seq ?_
  refine WC.region ?_
  refine WL.op (d := 10) (.bool (decide (i < (xs.length : Int)))) (k := ?_)
  refine WL.nil ?_
  refine WX.seqN ?_
  refine WC.seq ?_
  refine WC.cond (b := decide (i < (xs.length : Int))) (ht := fun h12 => ?_) (hf := fun h12 => ?_)
  · have ph12 := of_decide_eq_true h12
    refine WC.skip ?_
    refine WX.seqN ?_
    refine WC.seq ?_
    refine WC.block ?_
    refine WC.seq ?_
    refine WC.region ?_
    obtain ⟨b13, o14, r15, hr16, hA17, he18⟩ := SlAt.at hA (i := i) (by omega) (by omega)
    refine WL.rw (t := 7) (v := .slice (some ⟨b13, o14, none⟩) xs.length cp) (congrArg (fun a => Value.slice a xs.length cp) hA17) (k := ?_)
    refine WL.idx (T := 130) (E := 32) (m := 1) (b := b13) (o := o14) (len := xs.length) (cap := cp) (i := i) (kk := .i64) (d := 11) (by omega) (by omega) (k := ?_)
    refine WL.rw (t := 7) (v := .slice A xs.length cp) (congrArg (fun a => Value.slice a xs.length cp) (Eq.symm hA17)) (k := ?_)
    refine WL.load (v := .int .u64 (r15 : Int)) ((he18.adds K).ld0 (T := 32)) (k := ?_)
    refine WL.op (d := 5) (.int .u64 (r15 : Int)) (k := ?_)
    refine WL.nil ?_
    refine WX.seqN ?_
    refine WC.seq ?_
    refine WC.region ?_
    refine WL.op (d := 13) (.int .i64 0) (k := ?_)
    refine WL.nil ?_
    refine WX.seqN ?_
    refine WC.block ?_
    rw [show (List.take i.toNat xs).flatMap (be 8) = (List.take i.toNat xs).flatMap (be 8) ++ (be 8 r15).take (0 : Int).toNat from by simp] at hb10
    refine WC.loop (ι := Int × (Option Nat)) (fun (⟨j, rp⟩ : Int × (Option Nat)) => [(0, .slice A xs.length cp), (2, .string ⟨#[]⟩), (3, .pointer (some ⟨b1, 0, none⟩)), (7, .slice A xs.length cp), (8, .int .i64 (xs.length : Int)), (9, .int .i64 i), (10, .bool (decide (i < (xs.length : Int)))), (11, .pointer (some ⟨b13, o14 + (i).toNat * 1, none⟩)), (12, .int .u64 (r15 : Int)), (5, .int .u64 (r15 : Int)), (13, .int .i64 j)]) (fun (⟨j, rp⟩ : Int × (Option Nat)) (w_ : World) => (Keeps (fun _ => False) w w_) ∧ (BuR 133 0 b1 rp ((List.take i.toNat xs).flatMap (be 8) ++ (be 8 r15).take j.toNat) w_) ∧ (WLink w none rp) ∧ (0 ≤ j) ∧ (j ≤ 8)) (fun (⟨j, rp⟩ : Int × (Option Nat)) => (8 - j).toNat) (0, ro) ⟨(by kernel_rfl), (by kernel_rfl), (by kernel_rfl), (by kernel_rfl), (by kernel_rfl), (by kernel_rfl), (by kernel_rfl), (by kernel_rfl), (by kernel_rfl), (by kernel_rfl), (by kernel_rfl), trivial⟩ ⟨K, hb10, lk11, Int.le_refl 0, (by decide)⟩ ?_
    rintro ⟨j, rp⟩ w19 ⟨K, hb20, lk21, j0, j1⟩
    have lv_ : (List.take j.toNat (be 8 r15)).length ≤ 8 := by first | (simp [be_len]; done) | (simp [be_len]; omega)
    refine WC.seq ?_
    refine WC.region ?_
    refine WL.op (d := 14) (.bool (decide (j < 8))) (k := ?_)
    refine WL.nil ?_
    refine WX.seqN ?_
    refine WC.seq ?_
    refine WC.cond (b := decide (j < 8)) (ht := fun h22 => ?_) (hf := fun h22 => ?_)
    · have ph22 := of_decide_eq_true h22
      refine WC.skip ?_
      refine WX.seqN ?_
      refine WC.seq ?_
      refine WC.block ?_
      refine WC.seq ?_
      refine WC.region ?_
      refine WL.op (d := 15) (.int .i64 j) (k := ?_)
      refine WL.op (d := 6) (.int .i64 j) (k := ?_)
      refine WL.nil ?_
      refine WX.seqN ?_
      refine WC.region ?_
      refine WL.op (d := 16) (.int .u64 (r15 : Int)) (k := ?_)
      refine WL.op (d := 17) (.int .i64 j) (k := ?_)
      refine WL.opE (d := 18) (.int .i64 (IntKind.i64.wrap (7 - j))) (v := .int .i64 (7 - j)) (congrArg (Value.int .i64) (IntWalk.i64_in _ (by omega))) (k := ?_)
      refine WL.opE (d := 19) (.int .i64 (IntKind.i64.wrap (8 * (7 - j)))) (v := .int .i64 (8 * (7 - j))) (congrArg (Value.int .i64) (IntWalk.i64_in _ (by omega))) (k := ?_)
      refine WL.bin (d := 20) (v := .int .u64 ((r15 : Int) / 2 ^ (8 * (7 - j)).toNat)) (shr_runV (k := .u64) (yk := .i64) (x := (r15 : Int)) (y := (8 * (7 - j))) (by omega) (by show _ ≤ 64; omega)) (k := ?_)
      refine WL.rw (t := 20) (v := .int .u64 ((r15 / 256 ^ (8 - 1 - j.toNat) : Nat) : Int)) (congrArg (Value.int .u64) (shr_be j0 (by omega))) (k := ?_)
      have ub23 := u8_lt (UInt8.ofNat ((r15 / 256 ^ (8 - 1 - j.toNat)) % 256))
      refine WL.opE (d := 21) (.int .u8 (IntKind.u8.wrap ((r15 / 256 ^ (8 - 1 - j.toNat) : Nat) : Int))) (v := .int .u8 ((UInt8.ofNat ((r15 / 256 ^ (8 - 1 - j.toNat)) % 256)).toNat : Int)) (congrArg (Value.int .u8) (byte_nat (r15 / 256 ^ (8 - 1 - j.toNat)))) (k := ?_)
      refine WL.callG (d := 22) (f := 71) (args := #[.pointer (some ⟨b1, 0, none⟩), .int .u8 ((UInt8.ofNat ((r15 / 256 ^ (8 - 1 - j.toNat)) % 256)).toNat : Int)]) (bWriteByte_s _ _ _ ((UInt8.ofNat ((r15 / 256 ^ (8 - 1 - j.toNat)) % 256))) _ hb20 (by (try simp only [List.length_append, List.length_nil]); omega)) (k := fun e_ w24 h_ => ?_)
      obtain ⟨rfl, r25, hw26, n27, k28⟩ := h_
      refine ⟨_, rfl, ?_⟩
      have lk29 := lk21.step K n27
      replace K := K.trans' k28 (WLink.own lk21 z6 _)
      clear hb20 n27 lk21
      refine WL.nil ?_
      refine WX.blockN ?_
      refine WX.seqN ?_
      refine WC.region ?_
      refine WL.opE (d := 23) (.int .i64 (IntKind.i64.wrap (j + 1))) (v := .int .i64 (j + 1)) (congrArg (Value.int .i64) (IntWalk.i64_in _ (by omega))) (k := ?_)
      refine WL.op (d := 13) (.int .i64 (j + 1)) (k := ?_)
      refine WL.nil ?_
      have e30 : (List.take i.toNat xs).flatMap (be 8) ++ (be 8 r15).take j.toNat ++ [(UInt8.ofNat ((r15 / 256 ^ (8 - 1 - j.toNat)) % 256))] = (List.take i.toNat xs).flatMap (be 8) ++ (be 8 r15).take (j + 1).toNat := ou_step j0 (by omega)
      rw [e30] at hw26
      refine WX.round (j + 1, r25) (by show (8 - (j + 1)).toNat < (8 - j).toNat; omega) ⟨(by kernel_rfl), (by kernel_rfl), (by kernel_rfl), (by kernel_rfl), (by kernel_rfl), (by kernel_rfl), (by kernel_rfl), (by kernel_rfl), (by kernel_rfl), (by kernel_rfl), (by kernel_rfl), trivial⟩ ⟨K, hw26, lk29, (by omega), (by omega)⟩
    · have ph22 := of_decide_eq_false h22
      refine WC.exit ?_
      refine WX.seqE ?_
      refine WX.seqE ?_
      refine WX.blockE ?_
      refine WX.blockN ?_
      refine WX.seqN ?_
      refine WC.region ?_
      refine WL.opE (d := 24) (.int .i64 (IntKind.i64.wrap (i + 1))) (v := .int .i64 (i + 1)) (congrArg (Value.int .i64) (IntWalk.i64_in _ (by omega))) (k := ?_)
      refine WL.op (d := 9) (.int .i64 (i + 1)) (k := ?_)
      refine WL.nil ?_
      have e31 : (List.take i.toNat xs).flatMap (be 8) ++ (be 8 r15).take j.toNat = (List.take (i + 1).toNat xs).flatMap (be 8) := ou_succ i0 hr16 (by omega)
      rw [e31] at hb20
      refine WX.round (i + 1, rp) (by show (xs.length - (i + 1)).toNat < (xs.length - i).toNat; omega) ⟨(by kernel_rfl), (by kernel_rfl), (by kernel_rfl), (by kernel_rfl), (by kernel_rfl), (by kernel_rfl), trivial⟩ ⟨K, hb20, lk21, (by omega), (by omega)⟩
  · have ph12 := of_decide_eq_false h12
    refine WC.exit ?_
    refine WX.seqE ?_
    refine WX.seqE ?_
    refine WX.blockE ?_
    refine WX.seqN ?_
    refine WC.seq ?_
    refine WC.region ?_
    refine WL.callG (d := 25) (f := 72) (args := #[.pointer (some ⟨b1, 0, none⟩)]) (bString_s _ _ _ _ hb10 (by (try simp only [List.length_append, List.length_nil]); omega)) (k := fun e_ w32 h_ => ?_)
    obtain ⟨rfl, r33, hw34, n35, k36⟩ := h_
    refine ⟨_, rfl, ?_⟩
    have lk37 := lk11.step K n35
    replace K := K.trans' k36 (WLink.own lk11 z6 _)
    clear hb10 n35 lk11
    refine WL.op (d := 2) (.string ⟨((List.take i.toNat xs).flatMap (be 8)).toArray⟩) (k := ?_)
    refine WL.nil ?_
    refine WX.seqN ?_
    refine WC.ret ?_
    refine WX.ret (rs := [.tmp 2]) [.string ⟨((List.take i.toNat xs).flatMap (be 8)).toArray⟩] (.string ⟨((List.take i.toNat xs).flatMap (be 8)).toArray⟩) ⟨(by kernel_rfl), trivial⟩ (k := ?_)
    have e_ : List.take i.toNat xs = xs := List.take_of_length_le (by omega)
    exact ⟨by rw [e_], K⟩
theorem fTags2_c {b e n fz : Nat} {w : World} (hb : w.heap[b]? = some (.cells #[.int .u64 (e : Int), .int .u64 (n : Int)] 32 (0, fz))) : Calls Tryz.prog 58 #[.slice (some ⟨b, 0, none⟩) 2 2] w fun e_ w' => e_ = .returned (.string ⟨(tagsS e n).toArray⟩) ∧ Adds w w' := by
  refine (fTags_c (cp := 2) (xs := [e, n]) (SlAt.of_lit ekU64 hb rfl) (by simp)).mono ?_
  rintro e_ w' ⟨h1, h2⟩
  exact ⟨by rw [h1]; simp [tagsS], h2⟩
set_option maxRecDepth 100000 in
set_option maxHeartbeats 4000000 in
theorem trim0_c {l : List UInt8} (hm : l.length ≤ 1000000) (w : World) : Calls Tryz.prog 56 #[.string ⟨l.toArray⟩, .string ⟨#[0]⟩] w fun e w' => ∃ r : List UInt8, e = .returned (.string ⟨r.toArray⟩) ∧ (r = [] ↔ ∀ x ∈ l, x = 0) ∧ Adds w w' := by
  have K : Keeps (fun _ => False) w w := Keeps.refl _ w
  refine Calls.start Tryz.func56 rfl (by kernel_rfl) ?_
  refine WC.seq ?_
  refine WC.region ?_
  refine WL.op (d := 4) (.string ⟨#[]⟩) (k := ?_)
  refine WL.nil ?_
  refine WX.seqN ?_
  refine WC.seq ?_
  refine WC.seq ?_
  refine WC.region ?_
  refine WL.op (d := 7) (.string ⟨(l).toArray⟩) (k := ?_)
  refine WL.opE (d := 8) (.bool (ByteArray.toList ⟨(l).toArray⟩ == ByteArray.toList ⟨([]).toArray⟩)) (v := .bool (decide (l = []))) (str_eql _ _) (k := ?_)
  refine WL.op (d := 9) (.bool (decide (l = []))) (k := ?_)
  refine bsplit (decide (l = [])) (fun h1 => ?_) (fun h1 => ?_)
  · have ph1 := of_decide_eq_true h1
    refine WL.rw (t := 9) (v := .bool true) (congrArg Value.bool h1) (k := ?_)
    refine WL.skip (d := 10) (k := ?_)
    refine WL.skip (d := 11) (k := ?_)
    refine WL.op (d := 12) (.bool true) (k := ?_)
    refine WL.nil ?_
    refine WX.seqN ?_
    refine WC.condT (k := ?_)
    refine WC.seq ?_
    refine WC.region ?_
    refine WL.op (d := 13) (.string ⟨(l).toArray⟩) (k := ?_)
    refine WL.op (d := 4) (.string ⟨(l).toArray⟩) (k := ?_)
    refine WL.nil ?_
    refine WX.seqN ?_
    refine WC.ret ?_
    refine WX.seqR ?_
    refine WX.ret (rs := [.tmp 4]) [.string ⟨(l).toArray⟩] (.string ⟨(l).toArray⟩) ⟨(by kernel_rfl), trivial⟩ (k := ?_)
    exact ⟨l, rfl, ⟨fun e => by rw [e]; simp, fun _ => (by first | assumption | (simp_all; done))⟩, K⟩
  · have ph1 := of_decide_eq_false h1
    refine WL.rw (t := 9) (v := .bool false) (congrArg Value.bool h1) (k := ?_)
    refine WL.op (d := 10) (.string ⟨#[0]⟩) (k := ?_)
    refine WL.op (d := 11) (.bool false) (k := ?_)
    refine WL.op (d := 12) (.bool false) (k := ?_)
    refine WL.nil ?_
    refine WX.seqN ?_
    refine WC.condF (k := ?_)
    refine WC.skip ?_
    refine WX.seqN ?_
    refine WC.seq ?_
    refine WC.seq ?_
    refine WC.region ?_
    refine WL.op (d := 14) (.string ⟨#[0]⟩) (k := ?_)
    refine WL.op (d := 15) (.int .i64 1) (k := ?_)
    refine WL.op (d := 16) (.bool true) (k := ?_)
    refine WL.op (d := 17) (.bool true) (k := ?_)
    refine WL.op (d := 18) (.string ⟨#[0]⟩) (k := ?_)
    refine WL.op (d := 19) (.int .u8 0) (k := ?_)
    refine WL.op (d := 20) (.bool true) (k := ?_)
    refine WL.op (d := 21) (.bool true) (k := ?_)
    refine WL.nil ?_
    refine WX.seqN ?_
    refine WC.condT (k := ?_)
    refine WC.seq ?_
    refine WC.mixed (fun _ => False) 7 (k := fun w2 k3 => ?_)
    replace K := K.trans (k3.any _)
    have KC := Keeps.refl (fun _ => False) w2
    have Kb := K
    refine WA.quiet 0 (d := 22) (.string ⟨(l).toArray⟩) KC (hi := rfl) (k := ?_)
    refine WA.quiet 1 (d := 23) (.string ⟨#[0]⟩) KC (hi := rfl) (k := ?_)
    refine WA.quiet 2 (d := 24) (.int .u8 0) KC (hi := rfl) (k := ?_)
    refine WA.quiet 4 (d := 26) (.string ⟨#[0]⟩) KC (hi := rfl) (k := ?_)
    refine WA.quiet 5 (d := 27) (.int .u8 0) KC (hi := rfl) (k := ?_)
    refine WA.step 3 (hi := rfl) (k := ?_)
    refine WL.callG (d := 25) (f := 65) (args := #[.string ⟨(l).toArray⟩, .int .u8 0]) (trimRB_c (l := l) (0) (by show List.length l ≤ _; first | omega | (simp; done) | (simp; omega)) w2) (k := fun e_ w4 h_ => ?_)
    obtain ⟨n5, hn6, rfl, hz7, ho8, k9⟩ := h_
    refine ⟨_, rfl, ?_⟩
    replace K := K.trans (k9.any _)
    replace KC := KC.trans (k9.any _)
    refine WL.nil ?_
    refine WX.nxt KC ?_
    refine WA.step 6 (hi := rfl) (k := ?_)
    refine WL.callG (d := 28) (f := 64) (args := #[.string ⟨(List.take n5 l).toArray⟩, .int .u8 0]) (trimLB_c (l := List.take n5 l) (0) (by show List.length (List.take n5 l) ≤ _; first | omega | (simp; done) | (simp; omega)) w4) (k := fun e_ w10 h_ => ?_)
    obtain ⟨n11, hn12, rfl, hz13, ho14, k15⟩ := h_
    refine ⟨_, rfl, ?_⟩
    replace K := K.trans (k15.any _)
    replace KC := KC.trans (k15.any _)
    refine WL.nil ?_
    refine WX.nxt KC ?_
    refine WA.step 7 (hi := rfl) (k := ?_)
    refine WL.op (d := 4) (.string ⟨(List.drop n11 (List.take n5 l)).toArray⟩) (k := ?_)
    refine WL.nil ?_
    refine WX.nxtL ?_
    refine WA.done (k := ?_)
    clear KC
    refine WX.seqN ?_
    refine WC.ret ?_
    refine WX.seqR ?_
    refine WX.ret (rs := [.tmp 4]) [.string ⟨(List.drop n11 (List.take n5 l)).toArray⟩] (.string ⟨(List.drop n11 (List.take n5 l)).toArray⟩) ⟨(by kernel_rfl), trivial⟩ (k := ?_)
    exact ⟨_, rfl, trim_iff hn6 hz7 ho8 hn12 hz13, K⟩
end Go.Proofs.YtnkkbeafcfjkmaaGreatDoor
namespace Go.Proofs.YtnkkbeafcfjkmaaGreatDoor
open Go.RowKit
set_option linter.unusedVariables false
set_option linter.unusedSimpArgs false
set_option maxRecDepth 100000 in
set_option maxHeartbeats 4000000 in
theorem fMake_ok {p : List UInt8} {e n : Nat} (hp : p.length ≤ 43) (hpm : p.length ≤ 1000000) (he : e < 18446744073709551616) (hn : n < 18446744073709551616) (w : World) : Calls Tryz.prog 44 #[.agg #[.string ⟨p.toArray⟩, .int .u64 (e : Int), .int .u64 (n : Int)]] w fun e_ w' => e_ = .returned (.tuple #[.string ⟨(makeS p e n).toArray⟩, .int .i64 0]) ∧ Adds w w' := by
  have K : Keeps (fun _ => False) w w := Keeps.refl _ w
  refine Calls.start Tryz.func44 rfl (by kernel_rfl) ?_
  refine WC.seq ?_
  refine WC.region ?_
  refine WL.new (d := 1) (T := 72) #[.string ⟨(p).toArray⟩, .int .u64 ((e : Nat) : Int), .int .u64 ((n : Nat) : Int)] (k := fun b1 w2 g3 hb4 k5 => ?_)
  have z6 := Nat.le_trans K.size g3
  replace K := K.trans (k5.any _)
  refine WL.op (d := 2) (.string ⟨#[]⟩) (k := ?_)
  refine WL.op (d := 3) (.int .i64 0) (k := ?_)
  refine WL.nil ?_
  refine WX.seqN ?_
  refine WC.seq ?_
  refine WC.seq ?_
  refine WC.region ?_
  refine WL.op (d := 7) (.pointer (some ⟨b1, 0, none⟩)) (k := ?_)
  refine WL.load (v := .string ⟨(p).toArray⟩) (ld1 (T := 9) (i := 0) hb4) (k := ?_)
  refine WL.op (d := 9) (.int .i64 (p.length : Int)) (k := ?_)
  refine WL.op (d := 10) (.bool (decide ((p.length : Int) > 43))) (k := ?_)
  refine WL.nil ?_
  refine WX.seqN ?_
  refine WC.cond (b := decide ((p.length : Int) > 43)) (ht := fun h7 => ?_) (hf := fun h7 => ?_)
  · have ph7 := of_decide_eq_true h7
    refine WC.seq ?_
    refine WC.region ?_
    refine WL.op (d := 2) (.string ⟨#[]⟩) (k := ?_)
    refine WL.op (d := 3) (.int .i64 1) (k := ?_)
    refine WL.nil ?_
    refine WX.seqN ?_
    refine WC.ret ?_
    refine WX.seqR ?_
    refine WX.ret (rs := [.tmp 2, .tmp 3]) [.string ⟨#[]⟩, .int .i64 1] (.tuple #[.string ⟨#[]⟩, .int .i64 1]) ⟨(by kernel_rfl), (by kernel_rfl), trivial⟩ (k := ?_)
    exfalso; omega
  · have ph7 := of_decide_eq_false h7
    refine WC.skip ?_
    refine WX.seqN ?_
    refine WC.seq ?_
    refine WC.region ?_
    refine WL.op (d := 11) (.pointer (some ⟨b1, 1, none⟩)) (k := ?_)
    refine WL.load (v := .int .u64 ((e : Nat) : Int)) (ld1 (T := 32) (i := 1) hb4) (k := ?_)
    refine WL.op (d := 13) (.pointer (some ⟨b1, 2, none⟩)) (k := ?_)
    refine WL.load (v := .int .u64 ((n : Nat) : Int)) (ld1 (T := 32) (i := 2) hb4) (k := ?_)
    refine WL.newF (d := 15) (T := 32) #[.int .u64 ((e : Nat) : Int), .int .u64 ((n : Nat) : Int)] (fun b => .slice (some ⟨b, 0, none⟩) 2 2) (k := fun b8 w9 g10 hb11 k12 => ?_)
    have z13 := Nat.le_trans K.size g10
    have n14 : b1 ≠ b8 := Nat.ne_of_lt (Nat.lt_of_lt_of_le (lt_of_heap hb4) g10)
    replace hb4 := k12.heap hb4 id
    replace K := K.trans (k12.any _)
    refine WL.callG (d := 16) (f := 58) (args := #[.slice (some ⟨b8, 0, none⟩) 2 2]) (fTags2_c (e := e) (n := n) hb11) (k := fun e_ w16 h_ => ⟨.string ⟨(tagsS e n).toArray⟩, h_.1, ?_⟩)
    have k17 := h_.2; clear h_
    replace hb4 := k17.heap hb4 id
    replace hb11 := k17.heap hb11 id
    replace K := K.trans (k17.any _)
    have tl15 := tagsS_len e n
    refine WL.op (d := 4) (.string ⟨(tagsS e n).toArray⟩) (k := ?_)
    refine WL.nil ?_
    refine WX.seqN ?_
    refine WC.seq ?_
    refine WC.mixed (fun _ => False) 6 (k := fun w18 k19 => ?_)
    replace hb4 := k19.heap hb4 id
    replace hb11 := k19.heap hb11 id
    replace K := K.trans (k19.any _)
    have KC := Keeps.refl (fun _ => False) w18
    have bh20 := hb4
    have bh21 := hb11
    have Kb := K
    refine WA.quiet 1 (d := 18) (.pointer (some ⟨b1, 0, none⟩)) KC (hi := rfl) (k := ?_)
    refine WA.quietR 2 (d := 19) (.string ⟨(p).toArray⟩) KC (exec_load (fun w_ k_ => ld1 (T := 9) (i := 0) (k_.heap bh20 id))) (hi := rfl) (k := ?_)
    refine WA.quiet 3 (d := 20) (.string ⟨(tagsS e n).toArray⟩) KC (hi := rfl) (k := ?_)
    refine WA.quietR 4 (d := 21) (.string ⟨(p ++ (tagsS e n)).toArray⟩) KC (exec_bin (fun _ => cat_run (by (try simp only [List.length_append, List.length_cons, List.length_nil, List.length_replicate, be_len]); omega))) (hi := rfl) (k := ?_)
    refine WA.step 0 (hi := rfl) (k := ?_)
    refine WL.callG (d := 17) (f := 54) (args := #[]) (cNew_c w18) (k := fun e_ w22 h_ => ?_)
    obtain ⟨b23, g24, rfl, ht25, k26⟩ := h_
    refine ⟨_, rfl, ?_⟩
    have z27 := Nat.le_trans K.size g24
    have zc28 := Nat.le_trans KC.size g24
    have n29 : b1 ≠ b23 := Nat.ne_of_lt (Nat.lt_of_lt_of_le (lt_of_heap hb4) g24)
    have n30 : b8 ≠ b23 := Nat.ne_of_lt (Nat.lt_of_lt_of_le (lt_of_heap hb11) g24)
    replace hb4 := k26.heap hb4 id
    replace hb11 := k26.heap hb11 id
    replace K := K.trans (k26.any _)
    replace KC := KC.trans (k26.any _)
    refine WL.nil ?_
    refine WX.nxt KC ?_
    refine WA.step 5 (hi := rfl) (k := ?_)
    refine WL.callG (d := 22) (f := 59) (args := #[.pointer (some ⟨b23, 0, none⟩), .string ⟨(p ++ (tagsS e n)).toArray⟩]) (cSum_c (l := p ++ (tagsS e n)) ht25 (by show List.length (p ++ (tagsS e n)) ≤ _; first | omega | (simp; done) | (simp; omega))) (k := fun e_ w31 h_ => ?_)
    obtain ⟨rfl, k32⟩ := h_
    refine ⟨_, rfl, ?_⟩
    replace hb4 := k32.heap hb4 n29
    replace hb11 := k32.heap hb11 n30
    replace K := K.trans' k32 (fun i hi e => absurd (e ▸ hi) (Nat.not_lt.2 z27))
    replace KC := KC.trans' k32 (fun i hi e => absurd (e ▸ hi) (Nat.not_lt.2 zc28))
    clear ht25
    have cl33 := crc_lt (p ++ (tagsS e n))
    refine WL.nil ?_
    refine WX.nxt KC ?_
    refine WA.step 6 (hi := rfl) (k := ?_)
    refine WL.op (d := 5) (.int .u32 ((crc (p ++ (tagsS e n)) : Nat) : Int)) (k := ?_)
    refine WL.nil ?_
    refine WX.nxtL ?_
    refine WA.done (k := ?_)
    clear KC
    refine WX.seqN ?_
    refine WC.seq ?_
    refine WC.region ?_
    refine WL.op (d := 23) (.pointer (some ⟨b1, 0, none⟩)) (k := ?_)
    refine WL.load (v := .string ⟨(p).toArray⟩) (ld1 (T := 9) (i := 0) hb4) (k := ?_)
    refine WL.op (d := 25) (.int .i64 (p.length : Int)) (k := ?_)
    refine WL.opE (d := 26) (.int .i64 (IntKind.i64.wrap (43 - (p.length : Int)))) (v := .int .i64 (43 - (p.length : Int))) (congrArg (Value.int .i64) (IntWalk.i64_in _ (by omega))) (k := ?_)
    refine WL.callG (d := 27) (f := 60) (args := #[.string ⟨#[0]⟩, .int .i64 (43 - (p.length : Int))]) (repeat0_c (x := 43 - (p.length : Int)) (by omega) (by omega) w31) (k := fun e_ w34 h_ => ⟨.string ⟨(List.replicate (43 - (p.length : Int)).toNat (0 : UInt8)).toArray⟩, h_.1, ?_⟩)
    have k35 := h_.2; clear h_
    replace hb4 := k35.heap hb4 id
    replace hb11 := k35.heap hb11 id
    replace K := K.trans (k35.any _)
    refine WL.op (d := 6) (.string ⟨(List.replicate (43 - (p.length : Int)).toNat (0 : UInt8)).toArray⟩) (k := ?_)
    refine WL.nil ?_
    refine WX.seqN ?_
    refine WC.seq ?_
    refine WC.mixed (fun _ => False) 17 (k := fun w36 k37 => ?_)
    replace hb4 := k37.heap hb4 id
    replace hb11 := k37.heap hb11 id
    replace K := K.trans (k37.any _)
    have KC := Keeps.refl (fun _ => False) w36
    have bh38 := hb4
    have bh39 := hb11
    have Kb := K
    refine WA.quiet 0 (d := 28) (.pointer (some ⟨b1, 0, none⟩)) KC (hi := rfl) (k := ?_)
    refine WA.quietR 1 (d := 29) (.string ⟨(p).toArray⟩) KC (exec_load (fun w_ k_ => ld1 (T := 9) (i := 0) (k_.heap bh38 id))) (hi := rfl) (k := ?_)
    refine WA.quiet 2 (d := 30) (.int .i64 (p.length : Int)) KC (hi := rfl) (k := ?_)
    have ub40 := u8_lt (UInt8.ofNat ((p.length) % 256))
    refine WA.quiet 3 (d := 31) (.int .u8 (IntKind.u8.wrap (p.length : Int))) KC (hi := rfl) (k := ?_)
    refine WA.rw (t := 31) (v := .int .u8 ((UInt8.ofNat ((p.length) % 256)).toNat : Int)) (congrArg (Value.int .u8) (byte_nat (p.length))) (k := ?_)
    refine WA.quiet 6 (d := 34) (.int .u32 ((crc (p ++ (tagsS e n)) : Nat) : Int)) KC (hi := rfl) (k := ?_)
    refine WA.quiet 9 (d := 37) (.pointer (some ⟨b1, 0, none⟩)) KC (hi := rfl) (k := ?_)
    refine WA.quietR 10 (d := 38) (.string ⟨(p).toArray⟩) KC (exec_load (fun w_ k_ => ld1 (T := 9) (i := 0) (k_.heap bh38 id))) (hi := rfl) (k := ?_)
    refine WA.quiet 12 (d := 40) (.string ⟨(List.replicate (43 - (p.length : Int)).toNat (0 : UInt8)).toArray⟩) KC (hi := rfl) (k := ?_)
    refine WA.quiet 14 (d := 42) (.string ⟨(tagsS e n).toArray⟩) KC (hi := rfl) (k := ?_)
    refine WA.step2 4 7 (hi := rfl) (hj := rfl) (k1 := ?_) (k2 := ?_)
    · refine WL.newF (d := 32) (T := 5) #[.int .u8 ((UInt8.ofNat ((p.length) % 256)).toNat : Int)] (fun b => .slice (some ⟨b, 0, none⟩) 1 1) (k := fun b41 w42 g43 hb44 k45 => ?_)
      have z46 := Nat.le_trans K.size g43
      have zc47 := Nat.le_trans KC.size g43
      have n48 : b1 ≠ b41 := Nat.ne_of_lt (Nat.lt_of_lt_of_le (lt_of_heap hb4) g43)
      have n49 : b8 ≠ b41 := Nat.ne_of_lt (Nat.lt_of_lt_of_le (lt_of_heap hb11) g43)
      replace hb4 := k45.heap hb4 id
      replace hb11 := k45.heap hb11 id
      replace K := K.trans (k45.any _)
      replace KC := KC.trans (k45.any _)
      refine WL.nil ?_
      refine WX.nxt KC ?_
      refine WA.step2 5 7 (hi := rfl) (hj := rfl) (k1 := ?_) (k2 := ?_)
      · refine WL.conv (d := 33) (vx := .slice (some ⟨b41, 0, none⟩) 1 1) (v := .string ⟨#[(UInt8.ofNat ((p.length) % 256))]⟩) (run_ofBytes (T := 61) (S := 9) (E := 5) (l := [(UInt8.ofNat ((p.length) % 256))]) (by kernel_rfl) (by kernel_rfl) (by kernel_rfl) hb44 rfl (by kernel_rfl)) (k := ?_)
        refine WL.nil ?_
        refine WX.nxt KC ?_
        refine WA.step 7 (hi := rfl) (k := ?_)
        refine WL.callG (d := 35) (f := 61) (args := #[.int .u32 ((crc (p ++ (tagsS e n)) : Nat) : Int)]) (cBytes_c (n := crc (p ++ (tagsS e n))) (by omega) w42) (k := fun e_ w50 h_ => ⟨.string ⟨(be 4 (crc (p ++ (tagsS e n)))).toArray⟩, h_.1, ?_⟩)
        have k51 := h_.2; clear h_
        replace hb4 := k51.heap hb4 id
        replace hb11 := k51.heap hb11 id
        replace hb44 := k51.heap hb44 id
        replace K := K.trans (k51.any _)
        replace KC := KC.trans (k51.any _)
        refine WL.nil ?_
        refine WX.nxt KC ?_
        refine WA.quietR 8 (d := 36) (.string ⟨([(UInt8.ofNat ((p.length) % 256))] ++ (be 4 (crc (p ++ (tagsS e n))))).toArray⟩) KC (exec_bin (fun _ => cat_run (by (try simp only [List.length_append, List.length_cons, List.length_nil, List.length_replicate, be_len]); omega))) (hi := rfl) (k := ?_)
        refine WA.quietR 11 (d := 39) (.string ⟨([(UInt8.ofNat ((p.length) % 256))] ++ (be 4 (crc (p ++ (tagsS e n)))) ++ p).toArray⟩) KC (exec_bin (fun _ => cat_run (by (try simp only [List.length_append, List.length_cons, List.length_nil, List.length_replicate, be_len]); omega))) (hi := rfl) (k := ?_)
        refine WA.quietR 13 (d := 41) (.string ⟨([(UInt8.ofNat ((p.length) % 256))] ++ (be 4 (crc (p ++ (tagsS e n)))) ++ p ++ (List.replicate (43 - (p.length : Int)).toNat (0 : UInt8))).toArray⟩) KC (exec_bin (fun _ => cat_run (by (try simp only [List.length_append, List.length_cons, List.length_nil, List.length_replicate, be_len]); omega))) (hi := rfl) (k := ?_)
        refine WA.quietR 15 (d := 43) (.string ⟨([(UInt8.ofNat ((p.length) % 256))] ++ (be 4 (crc (p ++ (tagsS e n)))) ++ p ++ (List.replicate (43 - (p.length : Int)).toNat (0 : UInt8)) ++ (tagsS e n)).toArray⟩) KC (exec_bin (fun _ => cat_run (by (try simp only [List.length_append, List.length_cons, List.length_nil, List.length_replicate, be_len]); omega))) (hi := rfl) (k := ?_)
        refine WA.quiet 16 (d := 2) (.string ⟨([(UInt8.ofNat ((p.length) % 256))] ++ (be 4 (crc (p ++ (tagsS e n)))) ++ p ++ (List.replicate (43 - (p.length : Int)).toNat (0 : UInt8)) ++ (tagsS e n)).toArray⟩) KC (hi := rfl) (k := ?_)
        refine WA.step 17 (hi := rfl) (k := ?_)
        refine WL.op (d := 3) (.int .i64 0) (k := ?_)
        refine WL.nil ?_
        refine WX.nxtL ?_
        refine WA.done (k := ?_)
        clear KC
        refine WX.seqN ?_
        refine WC.ret ?_
        refine WX.ret (rs := [.tmp 2, .tmp 3]) [.string ⟨([(UInt8.ofNat ((p.length) % 256))] ++ (be 4 (crc (p ++ (tagsS e n)))) ++ p ++ (List.replicate (43 - (p.length : Int)).toNat (0 : UInt8)) ++ (tagsS e n)).toArray⟩, .int .i64 0] (.tuple #[.string ⟨([(UInt8.ofNat ((p.length) % 256))] ++ (be 4 (crc (p ++ (tagsS e n)))) ++ p ++ (List.replicate (43 - (p.length : Int)).toNat (0 : UInt8)) ++ (tagsS e n)).toArray⟩, .int .i64 0]) ⟨(by kernel_rfl), (by kernel_rfl), trivial⟩ (k := ?_)
        have e_ : [(UInt8.ofNat ((p.length) % 256))] ++ (be 4 (crc (p ++ (tagsS e n)))) ++ p ++ (List.replicate (43 - (p.length : Int)).toNat (0 : UInt8)) ++ (tagsS e n) = makeS p e n := by simp [makeS, Nat.mod_eq_of_lt (show p.length < 256 by omega), show (43 - (p.length : Int)).toNat = 43 - p.length by omega]
        exact ⟨by rw [e_], K⟩
      · refine WL.callG (d := 35) (f := 61) (args := #[.int .u32 ((crc (p ++ (tagsS e n)) : Nat) : Int)]) (cBytes_c (n := crc (p ++ (tagsS e n))) (by omega) w42) (k := fun e_ w52 h_ => ⟨.string ⟨(be 4 (crc (p ++ (tagsS e n)))).toArray⟩, h_.1, ?_⟩)
        have k53 := h_.2; clear h_
        replace hb4 := k53.heap hb4 id
        replace hb11 := k53.heap hb11 id
        replace hb44 := k53.heap hb44 id
        replace K := K.trans (k53.any _)
        replace KC := KC.trans (k53.any _)
        refine WL.nil ?_
        refine WX.nxt KC ?_
        refine WA.step 5 (hi := rfl) (k := ?_)
        refine WL.conv (d := 33) (vx := .slice (some ⟨b41, 0, none⟩) 1 1) (v := .string ⟨#[(UInt8.ofNat ((p.length) % 256))]⟩) (run_ofBytes (T := 61) (S := 9) (E := 5) (l := [(UInt8.ofNat ((p.length) % 256))]) (by kernel_rfl) (by kernel_rfl) (by kernel_rfl) hb44 rfl (by kernel_rfl)) (k := ?_)
        refine WL.nil ?_
        refine WX.nxt KC ?_
        refine WA.quietR 8 (d := 36) (.string ⟨([(UInt8.ofNat ((p.length) % 256))] ++ (be 4 (crc (p ++ (tagsS e n))))).toArray⟩) KC (exec_bin (fun _ => cat_run (by (try simp only [List.length_append, List.length_cons, List.length_nil, List.length_replicate, be_len]); omega))) (hi := rfl) (k := ?_)
        refine WA.quietR 11 (d := 39) (.string ⟨([(UInt8.ofNat ((p.length) % 256))] ++ (be 4 (crc (p ++ (tagsS e n)))) ++ p).toArray⟩) KC (exec_bin (fun _ => cat_run (by (try simp only [List.length_append, List.length_cons, List.length_nil, List.length_replicate, be_len]); omega))) (hi := rfl) (k := ?_)
        refine WA.quietR 13 (d := 41) (.string ⟨([(UInt8.ofNat ((p.length) % 256))] ++ (be 4 (crc (p ++ (tagsS e n)))) ++ p ++ (List.replicate (43 - (p.length : Int)).toNat (0 : UInt8))).toArray⟩) KC (exec_bin (fun _ => cat_run (by (try simp only [List.length_append, List.length_cons, List.length_nil, List.length_replicate, be_len]); omega))) (hi := rfl) (k := ?_)
        refine WA.quietR 15 (d := 43) (.string ⟨([(UInt8.ofNat ((p.length) % 256))] ++ (be 4 (crc (p ++ (tagsS e n)))) ++ p ++ (List.replicate (43 - (p.length : Int)).toNat (0 : UInt8)) ++ (tagsS e n)).toArray⟩) KC (exec_bin (fun _ => cat_run (by (try simp only [List.length_append, List.length_cons, List.length_nil, List.length_replicate, be_len]); omega))) (hi := rfl) (k := ?_)
        refine WA.quiet 16 (d := 2) (.string ⟨([(UInt8.ofNat ((p.length) % 256))] ++ (be 4 (crc (p ++ (tagsS e n)))) ++ p ++ (List.replicate (43 - (p.length : Int)).toNat (0 : UInt8)) ++ (tagsS e n)).toArray⟩) KC (hi := rfl) (k := ?_)
        refine WA.step 17 (hi := rfl) (k := ?_)
        refine WL.op (d := 3) (.int .i64 0) (k := ?_)
        refine WL.nil ?_
        refine WX.nxtL ?_
        refine WA.done (k := ?_)
        clear KC
        refine WX.seqN ?_
        refine WC.ret ?_
        refine WX.ret (rs := [.tmp 2, .tmp 3]) [.string ⟨([(UInt8.ofNat ((p.length) % 256))] ++ (be 4 (crc (p ++ (tagsS e n)))) ++ p ++ (List.replicate (43 - (p.length : Int)).toNat (0 : UInt8)) ++ (tagsS e n)).toArray⟩, .int .i64 0] (.tuple #[.string ⟨([(UInt8.ofNat ((p.length) % 256))] ++ (be 4 (crc (p ++ (tagsS e n)))) ++ p ++ (List.replicate (43 - (p.length : Int)).toNat (0 : UInt8)) ++ (tagsS e n)).toArray⟩, .int .i64 0]) ⟨(by kernel_rfl), (by kernel_rfl), trivial⟩ (k := ?_)
        have e_ : [(UInt8.ofNat ((p.length) % 256))] ++ (be 4 (crc (p ++ (tagsS e n)))) ++ p ++ (List.replicate (43 - (p.length : Int)).toNat (0 : UInt8)) ++ (tagsS e n) = makeS p e n := by simp [makeS, Nat.mod_eq_of_lt (show p.length < 256 by omega), show (43 - (p.length : Int)).toNat = 43 - p.length by omega]
        exact ⟨by rw [e_], K⟩
    · refine WL.callG (d := 35) (f := 61) (args := #[.int .u32 ((crc (p ++ (tagsS e n)) : Nat) : Int)]) (cBytes_c (n := crc (p ++ (tagsS e n))) (by omega) w36) (k := fun e_ w54 h_ => ⟨.string ⟨(be 4 (crc (p ++ (tagsS e n)))).toArray⟩, h_.1, ?_⟩)
      have k55 := h_.2; clear h_
      replace hb4 := k55.heap hb4 id
      replace hb11 := k55.heap hb11 id
      replace K := K.trans (k55.any _)
      replace KC := KC.trans (k55.any _)
      refine WL.nil ?_
      refine WX.nxt KC ?_
      refine WA.step 4 (hi := rfl) (k := ?_)
      refine WL.newF (d := 32) (T := 5) #[.int .u8 ((UInt8.ofNat ((p.length) % 256)).toNat : Int)] (fun b => .slice (some ⟨b, 0, none⟩) 1 1) (k := fun b56 w57 g58 hb59 k60 => ?_)
      have z61 := Nat.le_trans K.size g58
      have zc62 := Nat.le_trans KC.size g58
      have n63 : b1 ≠ b56 := Nat.ne_of_lt (Nat.lt_of_lt_of_le (lt_of_heap hb4) g58)
      have n64 : b8 ≠ b56 := Nat.ne_of_lt (Nat.lt_of_lt_of_le (lt_of_heap hb11) g58)
      replace hb4 := k60.heap hb4 id
      replace hb11 := k60.heap hb11 id
      replace K := K.trans (k60.any _)
      replace KC := KC.trans (k60.any _)
      refine WL.nil ?_
      refine WX.nxt KC ?_
      refine WA.step 5 (hi := rfl) (k := ?_)
      refine WL.conv (d := 33) (vx := .slice (some ⟨b56, 0, none⟩) 1 1) (v := .string ⟨#[(UInt8.ofNat ((p.length) % 256))]⟩) (run_ofBytes (T := 61) (S := 9) (E := 5) (l := [(UInt8.ofNat ((p.length) % 256))]) (by kernel_rfl) (by kernel_rfl) (by kernel_rfl) hb59 rfl (by kernel_rfl)) (k := ?_)
      refine WL.nil ?_
      refine WX.nxt KC ?_
      refine WA.quietR 8 (d := 36) (.string ⟨([(UInt8.ofNat ((p.length) % 256))] ++ (be 4 (crc (p ++ (tagsS e n))))).toArray⟩) KC (exec_bin (fun _ => cat_run (by (try simp only [List.length_append, List.length_cons, List.length_nil, List.length_replicate, be_len]); omega))) (hi := rfl) (k := ?_)
      refine WA.quietR 11 (d := 39) (.string ⟨([(UInt8.ofNat ((p.length) % 256))] ++ (be 4 (crc (p ++ (tagsS e n)))) ++ p).toArray⟩) KC (exec_bin (fun _ => cat_run (by (try simp only [List.length_append, List.length_cons, List.length_nil, List.length_replicate, be_len]); omega))) (hi := rfl) (k := ?_)
      refine WA.quietR 13 (d := 41) (.string ⟨([(UInt8.ofNat ((p.length) % 256))] ++ (be 4 (crc (p ++ (tagsS e n)))) ++ p ++ (List.replicate (43 - (p.length : Int)).toNat (0 : UInt8))).toArray⟩) KC (exec_bin (fun _ => cat_run (by (try simp only [List.length_append, List.length_cons, List.length_nil, List.length_replicate, be_len]); omega))) (hi := rfl) (k := ?_)
      refine WA.quietR 15 (d := 43) (.string ⟨([(UInt8.ofNat ((p.length) % 256))] ++ (be 4 (crc (p ++ (tagsS e n)))) ++ p ++ (List.replicate (43 - (p.length : Int)).toNat (0 : UInt8)) ++ (tagsS e n)).toArray⟩) KC (exec_bin (fun _ => cat_run (by (try simp only [List.length_append, List.length_cons, List.length_nil, List.length_replicate, be_len]); omega))) (hi := rfl) (k := ?_)
      refine WA.quiet 16 (d := 2) (.string ⟨([(UInt8.ofNat ((p.length) % 256))] ++ (be 4 (crc (p ++ (tagsS e n)))) ++ p ++ (List.replicate (43 - (p.length : Int)).toNat (0 : UInt8)) ++ (tagsS e n)).toArray⟩) KC (hi := rfl) (k := ?_)
      refine WA.step 17 (hi := rfl) (k := ?_)
      refine WL.op (d := 3) (.int .i64 0) (k := ?_)
      refine WL.nil ?_
      refine WX.nxtL ?_
      refine WA.done (k := ?_)
      clear KC
      refine WX.seqN ?_
      refine WC.ret ?_
      refine WX.ret (rs := [.tmp 2, .tmp 3]) [.string ⟨([(UInt8.ofNat ((p.length) % 256))] ++ (be 4 (crc (p ++ (tagsS e n)))) ++ p ++ (List.replicate (43 - (p.length : Int)).toNat (0 : UInt8)) ++ (tagsS e n)).toArray⟩, .int .i64 0] (.tuple #[.string ⟨([(UInt8.ofNat ((p.length) % 256))] ++ (be 4 (crc (p ++ (tagsS e n)))) ++ p ++ (List.replicate (43 - (p.length : Int)).toNat (0 : UInt8)) ++ (tagsS e n)).toArray⟩, .int .i64 0]) ⟨(by kernel_rfl), (by kernel_rfl), trivial⟩ (k := ?_)
      have e_ : [(UInt8.ofNat ((p.length) % 256))] ++ (be 4 (crc (p ++ (tagsS e n)))) ++ p ++ (List.replicate (43 - (p.length : Int)).toNat (0 : UInt8)) ++ (tagsS e n) = makeS p e n := by simp [makeS, Nat.mod_eq_of_lt (show p.length < 256 by omega), show (43 - (p.length : Int)).toNat = 43 - p.length by omega]
      exact ⟨by rw [e_], K⟩
theorem pad_one (l : List UInt8) (j : Nat) : l ++ List.replicate j 0 ++ [0] = l ++ List.replicate (j + 1) 0 := by rw [List.append_assoc, List.replicate_succ']
set_option maxRecDepth 100000 in
set_option maxHeartbeats 4000000 in
theorem u04Make_ok {p : List UInt8} {e n : Nat} (hp : p.length ≤ 43) (hpm : p.length ≤ 1000000) (he : e < 18446744073709551616) (hn : n < 18446744073709551616) (w : World) : Calls Tryz.prog 35 #[.agg #[.string ⟨p.toArray⟩, .int .u64 (e : Int), .int .u64 (n : Int)]] w fun e_ w' => e_ = .returned (.tuple #[.string ⟨(makeS p e n).toArray⟩, .int .i64 0]) ∧ Adds w w' := by
  have K : Keeps (fun _ => False) w w := Keeps.refl _ w
  refine Calls.start Tryz.func35 rfl (by kernel_rfl) ?_
  refine WC.seq ?_
  refine WC.region ?_
  refine WL.new (d := 1) (T := 72) #[.string ⟨(p).toArray⟩, .int .u64 ((e : Nat) : Int), .int .u64 ((n : Nat) : Int)] (k := fun b1 w2 g3 hb4 k5 => ?_)
  have z6 := Nat.le_trans K.size g3
  replace K := K.trans (k5.any _)
  refine WL.op (d := 2) (.string ⟨#[]⟩) (k := ?_)
  refine WL.op (d := 3) (.int .i64 0) (k := ?_)
  refine WL.nil ?_
  refine WX.seqN ?_
  refine WC.seq ?_
  refine WC.seq ?_
  refine WC.region ?_
  refine WL.op (d := 6) (.pointer (some ⟨b1, 0, none⟩)) (k := ?_)
  refine WL.load (v := .string ⟨(p).toArray⟩) (ld1 (T := 9) (i := 0) hb4) (k := ?_)
  refine WL.op (d := 8) (.int .i64 (p.length : Int)) (k := ?_)
  refine WL.op (d := 9) (.bool (decide ((p.length : Int) > 43))) (k := ?_)
  refine WL.nil ?_
  refine WX.seqN ?_
  refine WC.cond (b := decide ((p.length : Int) > 43)) (ht := fun h7 => ?_) (hf := fun h7 => ?_)
  · have ph7 := of_decide_eq_true h7
    refine WC.seq ?_
    refine WC.region ?_
    refine WL.op (d := 2) (.string ⟨#[]⟩) (k := ?_)
    refine WL.op (d := 3) (.int .i64 1) (k := ?_)
    refine WL.nil ?_
    refine WX.seqN ?_
    refine WC.ret ?_
    refine WX.seqR ?_
    refine WX.ret (rs := [.tmp 2, .tmp 3]) [.string ⟨#[]⟩, .int .i64 1] (.tuple #[.string ⟨#[]⟩, .int .i64 1]) ⟨(by kernel_rfl), (by kernel_rfl), trivial⟩ (k := ?_)
    exfalso; omega
  · have ph7 := of_decide_eq_false h7
    refine WC.skip ?_
    refine WX.seqN ?_
    refine WC.seq ?_
    refine WC.quiet (k := ?_)
    refine WQ.op (d := 10) (.pointer (some ⟨b1, 1, none⟩)) (k := ?_)
    refine WQ.load (v := .int .u64 ((e : Nat) : Int)) (fun w_ k_ => ld1 (T := 32) (i := 1) (k_.heap hb4 id)) (k := ?_)
    refine WQ.callG (d := 12) (f := 47) (args := #[.int .u64 ((e : Nat) : Int)]) (v := .string ⟨(be 8 e).toArray⟩) (fun w_ k_ => u04eight_c (n := e) (by omega) w_) addsR (k := ?_)
    have bl8 := be_len 8 e
    refine WQ.op (d := 13) (.pointer (some ⟨b1, 2, none⟩)) (k := ?_)
    refine WQ.load (v := .int .u64 ((n : Nat) : Int)) (fun w_ k_ => ld1 (T := 32) (i := 2) (k_.heap hb4 id)) (k := ?_)
    refine WQ.callG (d := 15) (f := 47) (args := #[.int .u64 ((n : Nat) : Int)]) (v := .string ⟨(be 8 n).toArray⟩) (fun w_ k_ => u04eight_c (n := n) (by omega) w_) addsR (k := ?_)
    have bl9 := be_len 8 n
    refine WQ.bin (d := 16) (v := .string ⟨((be 8 e) ++ (be 8 n)).toArray⟩) (fun _ => cat_run (by (try simp only [List.length_append, List.length_cons, List.length_nil, List.length_replicate, be_len]); omega)) (k := ?_)
    refine WQ.op (d := 4) (.string ⟨((be 8 e) ++ (be 8 n)).toArray⟩) (k := ?_)
    refine WQ.nilX (fun w10 k11 => ?_)
    replace hb4 := k11.heap hb4 id
    replace K := K.trans (k11.any _)
    refine WX.seqN ?_
    refine WC.seq ?_
    refine WC.mixed (fun _ => False) 16 (k := fun w12 k13 => ?_)
    replace hb4 := k13.heap hb4 id
    replace K := K.trans (k13.any _)
    have KC := Keeps.refl (fun _ => False) w12
    have bh14 := hb4
    have Kb := K
    refine WA.quiet 0 (d := 17) (.pointer (some ⟨b1, 0, none⟩)) KC (hi := rfl) (k := ?_)
    refine WA.quietR 1 (d := 18) (.string ⟨(p).toArray⟩) KC (exec_load (fun w_ k_ => ld1 (T := 9) (i := 0) (k_.heap bh14 id))) (hi := rfl) (k := ?_)
    refine WA.quiet 2 (d := 19) (.int .i64 (p.length : Int)) KC (hi := rfl) (k := ?_)
    have ub15 := u8_lt (UInt8.ofNat ((p.length) % 256))
    refine WA.quiet 3 (d := 20) (.int .u8 (IntKind.u8.wrap (p.length : Int))) KC (hi := rfl) (k := ?_)
    refine WA.rw (t := 20) (v := .int .u8 ((UInt8.ofNat ((p.length) % 256)).toNat : Int)) (congrArg (Value.int .u8) (byte_nat (p.length))) (k := ?_)
    refine WA.quiet 6 (d := 23) (.pointer (some ⟨b1, 0, none⟩)) KC (hi := rfl) (k := ?_)
    refine WA.quietR 7 (d := 24) (.string ⟨(p).toArray⟩) KC (exec_load (fun w_ k_ => ld1 (T := 9) (i := 0) (k_.heap bh14 id))) (hi := rfl) (k := ?_)
    refine WA.quiet 8 (d := 25) (.string ⟨((be 8 e) ++ (be 8 n)).toArray⟩) KC (hi := rfl) (k := ?_)
    refine WA.quietR 9 (d := 26) (.string ⟨(p ++ ((be 8 e) ++ (be 8 n))).toArray⟩) KC (exec_bin (fun _ => cat_run (by (try simp only [List.length_append, List.length_cons, List.length_nil, List.length_replicate, be_len]); omega))) (hi := rfl) (k := ?_)
    refine WA.quiet 13 (d := 30) (.pointer (some ⟨b1, 0, none⟩)) KC (hi := rfl) (k := ?_)
    refine WA.quietR 14 (d := 31) (.string ⟨(p).toArray⟩) KC (exec_load (fun w_ k_ => ld1 (T := 9) (i := 0) (k_.heap bh14 id))) (hi := rfl) (k := ?_)
    refine WA.step2 4 10 (hi := rfl) (hj := rfl) (k1 := ?_) (k2 := ?_)
    · refine WL.newF (d := 21) (T := 5) #[.int .u8 ((UInt8.ofNat ((p.length) % 256)).toNat : Int)] (fun b => .slice (some ⟨b, 0, none⟩) 1 1) (k := fun b16 w17 g18 hb19 k20 => ?_)
      have z21 := Nat.le_trans K.size g18
      have zc22 := Nat.le_trans KC.size g18
      have n23 : b1 ≠ b16 := Nat.ne_of_lt (Nat.lt_of_lt_of_le (lt_of_heap hb4) g18)
      replace hb4 := k20.heap hb4 id
      replace K := K.trans (k20.any _)
      replace KC := KC.trans (k20.any _)
      refine WL.nil ?_
      refine WX.nxt KC ?_
      refine WA.step2 5 10 (hi := rfl) (hj := rfl) (k1 := ?_) (k2 := ?_)
      · refine WL.conv (d := 22) (vx := .slice (some ⟨b16, 0, none⟩) 1 1) (v := .string ⟨#[(UInt8.ofNat ((p.length) % 256))]⟩) (run_ofBytes (T := 61) (S := 9) (E := 5) (l := [(UInt8.ofNat ((p.length) % 256))]) (by kernel_rfl) (by kernel_rfl) (by kernel_rfl) hb19 rfl (by kernel_rfl)) (k := ?_)
        refine WL.nil ?_
        refine WX.nxt KC ?_
        refine WA.step 10 (hi := rfl) (k := ?_)
        refine WL.callG (d := 27) (f := 49) (args := #[.string ⟨(p ++ ((be 8 e) ++ (be 8 n))).toArray⟩]) (u02Sum_c (l := p ++ ((be 8 e) ++ (be 8 n))) (by show List.length (p ++ ((be 8 e) ++ (be 8 n))) ≤ _; first | omega | (simp; done) | (simp; omega)) w17) (k := fun e_ w25 h_ => ⟨.int .u32 ((crc (p ++ ((be 8 e) ++ (be 8 n))) : Nat) : Int), h_.1, ?_⟩)
        have k26 := h_.2; clear h_
        replace hb4 := k26.heap hb4 id
        replace hb19 := k26.heap hb19 id
        replace K := K.trans (k26.any _)
        replace KC := KC.trans (k26.any _)
        have cl24 := crc_lt (p ++ ((be 8 e) ++ (be 8 n)))
        refine WL.nil ?_
        refine WX.nxt KC ?_
        refine WA.step 11 (hi := rfl) (k := ?_)
        refine WL.callG (d := 28) (f := 48) (args := #[.int .u32 ((crc (p ++ ((be 8 e) ++ (be 8 n))) : Nat) : Int)]) (u02Bytes_c (n := crc (p ++ ((be 8 e) ++ (be 8 n)))) (by omega) w25) (k := fun e_ w27 h_ => ⟨.string ⟨(be 4 (crc (p ++ ((be 8 e) ++ (be 8 n))))).toArray⟩, h_.1, ?_⟩)
        have k28 := h_.2; clear h_
        replace hb4 := k28.heap hb4 id
        replace hb19 := k28.heap hb19 id
        replace K := K.trans (k28.any _)
        replace KC := KC.trans (k28.any _)
        refine WL.nil ?_
        refine WX.nxt KC ?_
        refine WA.quietR 12 (d := 29) (.string ⟨([(UInt8.ofNat ((p.length) % 256))] ++ (be 4 (crc (p ++ ((be 8 e) ++ (be 8 n)))))).toArray⟩) KC (exec_bin (fun _ => cat_run (by (try simp only [List.length_append, List.length_cons, List.length_nil, List.length_replicate, be_len]); omega))) (hi := rfl) (k := ?_)
        refine WA.quietR 15 (d := 32) (.string ⟨([(UInt8.ofNat ((p.length) % 256))] ++ (be 4 (crc (p ++ ((be 8 e) ++ (be 8 n))))) ++ p).toArray⟩) KC (exec_bin (fun _ => cat_run (by (try simp only [List.length_append, List.length_cons, List.length_nil, List.length_replicate, be_len]); omega))) (hi := rfl) (k := ?_)
        refine WA.step 16 (hi := rfl) (k := ?_)
        refine WL.op (d := 5) (.string ⟨([(UInt8.ofNat ((p.length) % 256))] ++ (be 4 (crc (p ++ ((be 8 e) ++ (be 8 n))))) ++ p).toArray⟩) (k := ?_)
        refine WL.nil ?_
        refine WX.nxtL ?_
        refine WA.done (k := ?_)
        clear KC
        refine WX.seqN ?_
        refine WC.seq ?_
        refine WC.block ?_
        refine WC.rw (t := 5) (v := .string ⟨(mk0 p e n ++ List.replicate 0 (0 : UInt8)).toArray⟩) (congrArg (fun l : List UInt8 => Value.string ⟨l.toArray⟩) (show [(UInt8.ofNat ((p.length) % 256))] ++ (be 4 (crc (p ++ ((be 8 e) ++ (be 8 n))))) ++ p = mk0 p e n ++ List.replicate 0 (0 : UInt8) by simp [mk0, tagsS, Nat.mod_eq_of_lt (show p.length < 256 by omega)])) (k := ?_)
        refine WC.rw (t := 4) (v := .string ⟨(tagsS e n).toArray⟩) (congrArg (fun l : List UInt8 => Value.string ⟨l.toArray⟩) rfl) (k := ?_)
        refine WC.loop (ι := Nat) (fun (j : Nat) => [(0, .agg #[.string ⟨(p).toArray⟩, .int .u64 ((e : Nat) : Int), .int .u64 ((n : Nat) : Int)]), (1, .pointer (some ⟨b1, 0, none⟩)), (2, .string ⟨#[]⟩), (3, .int .i64 0), (6, .pointer (some ⟨b1, 0, none⟩)), (7, .string ⟨(p).toArray⟩), (8, .int .i64 (p.length : Int)), (9, .bool (decide ((p.length : Int) > 43))), (10, .pointer (some ⟨b1, 1, none⟩)), (11, .int .u64 ((e : Nat) : Int)), (12, .string ⟨(be 8 e).toArray⟩), (13, .pointer (some ⟨b1, 2, none⟩)), (14, .int .u64 ((n : Nat) : Int)), (15, .string ⟨(be 8 n).toArray⟩), (16, .string ⟨((be 8 e) ++ (be 8 n)).toArray⟩), (4, .string ⟨(tagsS e n).toArray⟩), (17, .pointer (some ⟨b1, 0, none⟩)), (18, .string ⟨(p).toArray⟩), (19, .int .i64 (p.length : Int)), (20, .int .u8 ((UInt8.ofNat ((p.length) % 256)).toNat : Int)), (23, .pointer (some ⟨b1, 0, none⟩)), (24, .string ⟨(p).toArray⟩), (25, .string ⟨((be 8 e) ++ (be 8 n)).toArray⟩), (26, .string ⟨(p ++ ((be 8 e) ++ (be 8 n))).toArray⟩), (30, .pointer (some ⟨b1, 0, none⟩)), (31, .string ⟨(p).toArray⟩), (21, .slice (some ⟨b16, 0, none⟩) 1 1), (22, .string ⟨#[(UInt8.ofNat ((p.length) % 256))]⟩), (27, .int .u32 ((crc (p ++ ((be 8 e) ++ (be 8 n))) : Nat) : Int)), (28, .string ⟨(be 4 (crc (p ++ ((be 8 e) ++ (be 8 n))))).toArray⟩), (29, .string ⟨([(UInt8.ofNat ((p.length) % 256))] ++ (be 4 (crc (p ++ ((be 8 e) ++ (be 8 n)))))).toArray⟩), (32, .string ⟨([(UInt8.ofNat ((p.length) % 256))] ++ (be 4 (crc (p ++ ((be 8 e) ++ (be 8 n))))) ++ p).toArray⟩), (5, .string ⟨(mk0 p e n ++ List.replicate j (0 : UInt8)).toArray⟩)]) (fun (j : Nat) (w_ : World) => (Keeps (fun _ => False) w w_) ∧ (w_.heap[b1]? = some (.cells #[.string ⟨(p).toArray⟩, .int .u64 ((e : Nat) : Int), .int .u64 ((n : Nat) : Int)] 72 (0, 0))) ∧ (w_.heap[b16]? = some (.cells #[.int .u8 ((UInt8.ofNat ((p.length) % 256)).toNat : Int)] 5 (0, 0))) ∧ (j ≤ 43 - p.length)) (fun (j : Nat) => (43 - j)) 0 ⟨(by kernel_rfl), (by kernel_rfl), (by kernel_rfl), (by kernel_rfl), (by kernel_rfl), (by kernel_rfl), (by kernel_rfl), (by kernel_rfl), (by kernel_rfl), (by kernel_rfl), (by kernel_rfl), (by kernel_rfl), (by kernel_rfl), (by kernel_rfl), (by kernel_rfl), (by kernel_rfl), (by kernel_rfl), (by kernel_rfl), (by kernel_rfl), (by kernel_rfl), (by kernel_rfl), (by kernel_rfl), (by kernel_rfl), (by kernel_rfl), (by kernel_rfl), (by kernel_rfl), (by kernel_rfl), (by kernel_rfl), (by kernel_rfl), (by kernel_rfl), (by kernel_rfl), (by kernel_rfl), (by kernel_rfl), trivial⟩ ⟨K, hb4, hb19, (by omega)⟩ ?_
        rintro j w29 ⟨K, hb30, hb31, j1⟩
        have lm_ := mk0_len p e n
        have lj_ : (mk0 p e n ++ List.replicate j (0 : UInt8)).length = 5 + p.length + j := by simp [lm_]
        have lt_ := tagsS_len e n
        refine WC.seq ?_
        refine WC.seq ?_
        refine WC.region ?_
        refine WL.op (d := 33) (.string ⟨(mk0 p e n ++ List.replicate j (0 : UInt8)).toArray⟩) (k := ?_)
        refine WL.op (d := 34) (.int .i64 ((mk0 p e n ++ List.replicate j (0 : UInt8)).length : Int)) (k := ?_)
        refine WL.op (d := 35) (.bool (decide (((mk0 p e n ++ List.replicate j (0 : UInt8)).length : Int) < 48))) (k := ?_)
        refine WL.nil ?_
        refine WX.seqN ?_
        refine WC.cond (b := decide (((mk0 p e n ++ List.replicate j (0 : UInt8)).length : Int) < 48)) (ht := fun h32 => ?_) (hf := fun h32 => ?_)
        · have ph32 := of_decide_eq_true h32
          refine WC.skip ?_
          refine WX.seqN ?_
          refine WC.block ?_
          refine WC.region ?_
          refine WL.op (d := 36) (.string ⟨(mk0 p e n ++ List.replicate j (0 : UInt8)).toArray⟩) (k := ?_)
          refine WL.bin (d := 37) (v := .string ⟨(mk0 p e n ++ List.replicate j (0 : UInt8) ++ [0]).toArray⟩) (cat_run (by (try simp only [List.length_append, List.length_cons, List.length_nil, List.length_replicate, be_len]); omega)) (k := ?_)
          refine WL.op (d := 5) (.string ⟨(mk0 p e n ++ List.replicate j (0 : UInt8) ++ [0]).toArray⟩) (k := ?_)
          refine WL.nil ?_
          refine WX.blockN ?_
          refine WX.rw (t := 5) (v := .string ⟨(mk0 p e n ++ List.replicate (j + 1) (0 : UInt8)).toArray⟩) (congrArg (fun l : List UInt8 => Value.string ⟨l.toArray⟩) (pad_one _ j)) (k := ?_)
          refine WX.round (j + 1) (by show (43 - (j + 1)) < (43 - j); omega) ⟨(by kernel_rfl), (by kernel_rfl), (by kernel_rfl), (by kernel_rfl), (by kernel_rfl), (by kernel_rfl), (by kernel_rfl), (by kernel_rfl), (by kernel_rfl), (by kernel_rfl), (by kernel_rfl), (by kernel_rfl), (by kernel_rfl), (by kernel_rfl), (by kernel_rfl), (by kernel_rfl), (by kernel_rfl), (by kernel_rfl), (by kernel_rfl), (by kernel_rfl), (by kernel_rfl), (by kernel_rfl), (by kernel_rfl), (by kernel_rfl), (by kernel_rfl), (by kernel_rfl), (by kernel_rfl), (by kernel_rfl), (by kernel_rfl), (by kernel_rfl), (by kernel_rfl), (by kernel_rfl), (by kernel_rfl), trivial⟩ ⟨K, hb30, hb31, (by omega)⟩
        · have ph32 := of_decide_eq_false h32
          refine WC.exit ?_
          refine WX.seqE ?_
          refine WX.seqE ?_
          refine WX.blockE ?_
          refine WX.seqN ?_
          refine WC.seq ?_
          refine WC.region ?_
          refine WL.op (d := 38) (.string ⟨(mk0 p e n ++ List.replicate j (0 : UInt8)).toArray⟩) (k := ?_)
          refine WL.op (d := 39) (.string ⟨(tagsS e n).toArray⟩) (k := ?_)
          refine WL.bin (d := 40) (v := .string ⟨(mk0 p e n ++ List.replicate j (0 : UInt8) ++ (tagsS e n)).toArray⟩) (cat_run (by (try simp only [List.length_append, List.length_cons, List.length_nil, List.length_replicate, be_len]); omega)) (k := ?_)
          refine WL.op (d := 2) (.string ⟨(mk0 p e n ++ List.replicate j (0 : UInt8) ++ (tagsS e n)).toArray⟩) (k := ?_)
          refine WL.op (d := 3) (.int .i64 0) (k := ?_)
          refine WL.nil ?_
          refine WX.seqN ?_
          refine WC.ret ?_
          refine WX.ret (rs := [.tmp 2, .tmp 3]) [.string ⟨(mk0 p e n ++ List.replicate j (0 : UInt8) ++ (tagsS e n)).toArray⟩, .int .i64 0] (.tuple #[.string ⟨(mk0 p e n ++ List.replicate j (0 : UInt8) ++ (tagsS e n)).toArray⟩, .int .i64 0]) ⟨(by kernel_rfl), (by kernel_rfl), trivial⟩ (k := ?_)
          exact ⟨by rw [mk0_end (j := j) (by omega)], K⟩
      · refine WL.callG (d := 27) (f := 49) (args := #[.string ⟨(p ++ ((be 8 e) ++ (be 8 n))).toArray⟩]) (u02Sum_c (l := p ++ ((be 8 e) ++ (be 8 n))) (by show List.length (p ++ ((be 8 e) ++ (be 8 n))) ≤ _; first | omega | (simp; done) | (simp; omega)) w17) (k := fun e_ w34 h_ => ⟨.int .u32 ((crc (p ++ ((be 8 e) ++ (be 8 n))) : Nat) : Int), h_.1, ?_⟩)
        have k35 := h_.2; clear h_
        replace hb4 := k35.heap hb4 id
        replace hb19 := k35.heap hb19 id
        replace K := K.trans (k35.any _)
        replace KC := KC.trans (k35.any _)
        have cl33 := crc_lt (p ++ ((be 8 e) ++ (be 8 n)))
        refine WL.nil ?_
        refine WX.nxt KC ?_
        refine WA.step2 5 11 (hi := rfl) (hj := rfl) (k1 := ?_) (k2 := ?_)
        · refine WL.conv (d := 22) (vx := .slice (some ⟨b16, 0, none⟩) 1 1) (v := .string ⟨#[(UInt8.ofNat ((p.length) % 256))]⟩) (run_ofBytes (T := 61) (S := 9) (E := 5) (l := [(UInt8.ofNat ((p.length) % 256))]) (by kernel_rfl) (by kernel_rfl) (by kernel_rfl) hb19 rfl (by kernel_rfl)) (k := ?_)
          refine WL.nil ?_
          refine WX.nxt KC ?_
          refine WA.step 11 (hi := rfl) (k := ?_)
          refine WL.callG (d := 28) (f := 48) (args := #[.int .u32 ((crc (p ++ ((be 8 e) ++ (be 8 n))) : Nat) : Int)]) (u02Bytes_c (n := crc (p ++ ((be 8 e) ++ (be 8 n)))) (by omega) w34) (k := fun e_ w36 h_ => ⟨.string ⟨(be 4 (crc (p ++ ((be 8 e) ++ (be 8 n))))).toArray⟩, h_.1, ?_⟩)
          have k37 := h_.2; clear h_
          replace hb4 := k37.heap hb4 id
          replace hb19 := k37.heap hb19 id
          replace K := K.trans (k37.any _)
          replace KC := KC.trans (k37.any _)
          refine WL.nil ?_
          refine WX.nxt KC ?_
          refine WA.quietR 12 (d := 29) (.string ⟨([(UInt8.ofNat ((p.length) % 256))] ++ (be 4 (crc (p ++ ((be 8 e) ++ (be 8 n)))))).toArray⟩) KC (exec_bin (fun _ => cat_run (by (try simp only [List.length_append, List.length_cons, List.length_nil, List.length_replicate, be_len]); omega))) (hi := rfl) (k := ?_)
          refine WA.quietR 15 (d := 32) (.string ⟨([(UInt8.ofNat ((p.length) % 256))] ++ (be 4 (crc (p ++ ((be 8 e) ++ (be 8 n))))) ++ p).toArray⟩) KC (exec_bin (fun _ => cat_run (by (try simp only [List.length_append, List.length_cons, List.length_nil, List.length_replicate, be_len]); omega))) (hi := rfl) (k := ?_)
          refine WA.step 16 (hi := rfl) (k := ?_)
          refine WL.op (d := 5) (.string ⟨([(UInt8.ofNat ((p.length) % 256))] ++ (be 4 (crc (p ++ ((be 8 e) ++ (be 8 n))))) ++ p).toArray⟩) (k := ?_)
          refine WL.nil ?_
          refine WX.nxtL ?_
          refine WA.done (k := ?_)
          clear KC
          refine WX.seqN ?_
          refine WC.seq ?_
          refine WC.block ?_
          refine WC.rw (t := 5) (v := .string ⟨(mk0 p e n ++ List.replicate 0 (0 : UInt8)).toArray⟩) (congrArg (fun l : List UInt8 => Value.string ⟨l.toArray⟩) (show [(UInt8.ofNat ((p.length) % 256))] ++ (be 4 (crc (p ++ ((be 8 e) ++ (be 8 n))))) ++ p = mk0 p e n ++ List.replicate 0 (0 : UInt8) by simp [mk0, tagsS, Nat.mod_eq_of_lt (show p.length < 256 by omega)])) (k := ?_)
          refine WC.rw (t := 4) (v := .string ⟨(tagsS e n).toArray⟩) (congrArg (fun l : List UInt8 => Value.string ⟨l.toArray⟩) rfl) (k := ?_)
          refine WC.loop (ι := Nat) (fun (j : Nat) => [(0, .agg #[.string ⟨(p).toArray⟩, .int .u64 ((e : Nat) : Int), .int .u64 ((n : Nat) : Int)]), (1, .pointer (some ⟨b1, 0, none⟩)), (2, .string ⟨#[]⟩), (3, .int .i64 0), (6, .pointer (some ⟨b1, 0, none⟩)), (7, .string ⟨(p).toArray⟩), (8, .int .i64 (p.length : Int)), (9, .bool (decide ((p.length : Int) > 43))), (10, .pointer (some ⟨b1, 1, none⟩)), (11, .int .u64 ((e : Nat) : Int)), (12, .string ⟨(be 8 e).toArray⟩), (13, .pointer (some ⟨b1, 2, none⟩)), (14, .int .u64 ((n : Nat) : Int)), (15, .string ⟨(be 8 n).toArray⟩), (16, .string ⟨((be 8 e) ++ (be 8 n)).toArray⟩), (4, .string ⟨(tagsS e n).toArray⟩), (17, .pointer (some ⟨b1, 0, none⟩)), (18, .string ⟨(p).toArray⟩), (19, .int .i64 (p.length : Int)), (20, .int .u8 ((UInt8.ofNat ((p.length) % 256)).toNat : Int)), (23, .pointer (some ⟨b1, 0, none⟩)), (24, .string ⟨(p).toArray⟩), (25, .string ⟨((be 8 e) ++ (be 8 n)).toArray⟩), (26, .string ⟨(p ++ ((be 8 e) ++ (be 8 n))).toArray⟩), (30, .pointer (some ⟨b1, 0, none⟩)), (31, .string ⟨(p).toArray⟩), (21, .slice (some ⟨b16, 0, none⟩) 1 1), (27, .int .u32 ((crc (p ++ ((be 8 e) ++ (be 8 n))) : Nat) : Int)), (22, .string ⟨#[(UInt8.ofNat ((p.length) % 256))]⟩), (28, .string ⟨(be 4 (crc (p ++ ((be 8 e) ++ (be 8 n))))).toArray⟩), (29, .string ⟨([(UInt8.ofNat ((p.length) % 256))] ++ (be 4 (crc (p ++ ((be 8 e) ++ (be 8 n)))))).toArray⟩), (32, .string ⟨([(UInt8.ofNat ((p.length) % 256))] ++ (be 4 (crc (p ++ ((be 8 e) ++ (be 8 n))))) ++ p).toArray⟩), (5, .string ⟨(mk0 p e n ++ List.replicate j (0 : UInt8)).toArray⟩)]) (fun (j : Nat) (w_ : World) => (Keeps (fun _ => False) w w_) ∧ (w_.heap[b1]? = some (.cells #[.string ⟨(p).toArray⟩, .int .u64 ((e : Nat) : Int), .int .u64 ((n : Nat) : Int)] 72 (0, 0))) ∧ (w_.heap[b16]? = some (.cells #[.int .u8 ((UInt8.ofNat ((p.length) % 256)).toNat : Int)] 5 (0, 0))) ∧ (j ≤ 43 - p.length)) (fun (j : Nat) => (43 - j)) 0 ⟨(by kernel_rfl), (by kernel_rfl), (by kernel_rfl), (by kernel_rfl), (by kernel_rfl), (by kernel_rfl), (by kernel_rfl), (by kernel_rfl), (by kernel_rfl), (by kernel_rfl), (by kernel_rfl), (by kernel_rfl), (by kernel_rfl), (by kernel_rfl), (by kernel_rfl), (by kernel_rfl), (by kernel_rfl), (by kernel_rfl), (by kernel_rfl), (by kernel_rfl), (by kernel_rfl), (by kernel_rfl), (by kernel_rfl), (by kernel_rfl), (by kernel_rfl), (by kernel_rfl), (by kernel_rfl), (by kernel_rfl), (by kernel_rfl), (by kernel_rfl), (by kernel_rfl), (by kernel_rfl), (by kernel_rfl), trivial⟩ ⟨K, hb4, hb19, (by omega)⟩ ?_
          rintro j w38 ⟨K, hb39, hb40, j1⟩
          have lm_ := mk0_len p e n
          have lj_ : (mk0 p e n ++ List.replicate j (0 : UInt8)).length = 5 + p.length + j := by simp [lm_]
          have lt_ := tagsS_len e n
          refine WC.seq ?_
          refine WC.seq ?_
          refine WC.region ?_
          refine WL.op (d := 33) (.string ⟨(mk0 p e n ++ List.replicate j (0 : UInt8)).toArray⟩) (k := ?_)
          refine WL.op (d := 34) (.int .i64 ((mk0 p e n ++ List.replicate j (0 : UInt8)).length : Int)) (k := ?_)
          refine WL.op (d := 35) (.bool (decide (((mk0 p e n ++ List.replicate j (0 : UInt8)).length : Int) < 48))) (k := ?_)
          refine WL.nil ?_
          refine WX.seqN ?_
          refine WC.cond (b := decide (((mk0 p e n ++ List.replicate j (0 : UInt8)).length : Int) < 48)) (ht := fun h41 => ?_) (hf := fun h41 => ?_)
          · have ph41 := of_decide_eq_true h41
            refine WC.skip ?_
            refine WX.seqN ?_
            refine WC.block ?_
            refine WC.region ?_
            refine WL.op (d := 36) (.string ⟨(mk0 p e n ++ List.replicate j (0 : UInt8)).toArray⟩) (k := ?_)
            refine WL.bin (d := 37) (v := .string ⟨(mk0 p e n ++ List.replicate j (0 : UInt8) ++ [0]).toArray⟩) (cat_run (by (try simp only [List.length_append, List.length_cons, List.length_nil, List.length_replicate, be_len]); omega)) (k := ?_)
            refine WL.op (d := 5) (.string ⟨(mk0 p e n ++ List.replicate j (0 : UInt8) ++ [0]).toArray⟩) (k := ?_)
            refine WL.nil ?_
            refine WX.blockN ?_
            refine WX.rw (t := 5) (v := .string ⟨(mk0 p e n ++ List.replicate (j + 1) (0 : UInt8)).toArray⟩) (congrArg (fun l : List UInt8 => Value.string ⟨l.toArray⟩) (pad_one _ j)) (k := ?_)
            refine WX.round (j + 1) (by show (43 - (j + 1)) < (43 - j); omega) ⟨(by kernel_rfl), (by kernel_rfl), (by kernel_rfl), (by kernel_rfl), (by kernel_rfl), (by kernel_rfl), (by kernel_rfl), (by kernel_rfl), (by kernel_rfl), (by kernel_rfl), (by kernel_rfl), (by kernel_rfl), (by kernel_rfl), (by kernel_rfl), (by kernel_rfl), (by kernel_rfl), (by kernel_rfl), (by kernel_rfl), (by kernel_rfl), (by kernel_rfl), (by kernel_rfl), (by kernel_rfl), (by kernel_rfl), (by kernel_rfl), (by kernel_rfl), (by kernel_rfl), (by kernel_rfl), (by kernel_rfl), (by kernel_rfl), (by kernel_rfl), (by kernel_rfl), (by kernel_rfl), (by kernel_rfl), trivial⟩ ⟨K, hb39, hb40, (by omega)⟩
          · have ph41 := of_decide_eq_false h41
            refine WC.exit ?_
            refine WX.seqE ?_
            refine WX.seqE ?_
            refine WX.blockE ?_
            refine WX.seqN ?_
            refine WC.seq ?_
            refine WC.region ?_
            refine WL.op (d := 38) (.string ⟨(mk0 p e n ++ List.replicate j (0 : UInt8)).toArray⟩) (k := ?_)
            refine WL.op (d := 39) (.string ⟨(tagsS e n).toArray⟩) (k := ?_)
            refine WL.bin (d := 40) (v := .string ⟨(mk0 p e n ++ List.replicate j (0 : UInt8) ++ (tagsS e n)).toArray⟩) (cat_run (by (try simp only [List.length_append, List.length_cons, List.length_nil, List.length_replicate, be_len]); omega)) (k := ?_)
            refine WL.op (d := 2) (.string ⟨(mk0 p e n ++ List.replicate j (0 : UInt8) ++ (tagsS e n)).toArray⟩) (k := ?_)
            refine WL.op (d := 3) (.int .i64 0) (k := ?_)
            refine WL.nil ?_
            refine WX.seqN ?_
            refine WC.ret ?_
            refine WX.ret (rs := [.tmp 2, .tmp 3]) [.string ⟨(mk0 p e n ++ List.replicate j (0 : UInt8) ++ (tagsS e n)).toArray⟩, .int .i64 0] (.tuple #[.string ⟨(mk0 p e n ++ List.replicate j (0 : UInt8) ++ (tagsS e n)).toArray⟩, .int .i64 0]) ⟨(by kernel_rfl), (by kernel_rfl), trivial⟩ (k := ?_)
            exact ⟨by rw [mk0_end (j := j) (by omega)], K⟩
        · refine WL.callG (d := 28) (f := 48) (args := #[.int .u32 ((crc (p ++ ((be 8 e) ++ (be 8 n))) : Nat) : Int)]) (u02Bytes_c (n := crc (p ++ ((be 8 e) ++ (be 8 n)))) (by omega) w34) (k := fun e_ w42 h_ => ⟨.string ⟨(be 4 (crc (p ++ ((be 8 e) ++ (be 8 n))))).toArray⟩, h_.1, ?_⟩)
          have k43 := h_.2; clear h_
          replace hb4 := k43.heap hb4 id
          replace hb19 := k43.heap hb19 id
          replace K := K.trans (k43.any _)
          replace KC := KC.trans (k43.any _)
          refine WL.nil ?_
          refine WX.nxt KC ?_
          refine WA.step 5 (hi := rfl) (k := ?_)
          refine WL.conv (d := 22) (vx := .slice (some ⟨b16, 0, none⟩) 1 1) (v := .string ⟨#[(UInt8.ofNat ((p.length) % 256))]⟩) (run_ofBytes (T := 61) (S := 9) (E := 5) (l := [(UInt8.ofNat ((p.length) % 256))]) (by kernel_rfl) (by kernel_rfl) (by kernel_rfl) hb19 rfl (by kernel_rfl)) (k := ?_)
          refine WL.nil ?_
          refine WX.nxt KC ?_
          refine WA.quietR 12 (d := 29) (.string ⟨([(UInt8.ofNat ((p.length) % 256))] ++ (be 4 (crc (p ++ ((be 8 e) ++ (be 8 n)))))).toArray⟩) KC (exec_bin (fun _ => cat_run (by (try simp only [List.length_append, List.length_cons, List.length_nil, List.length_replicate, be_len]); omega))) (hi := rfl) (k := ?_)
          refine WA.quietR 15 (d := 32) (.string ⟨([(UInt8.ofNat ((p.length) % 256))] ++ (be 4 (crc (p ++ ((be 8 e) ++ (be 8 n))))) ++ p).toArray⟩) KC (exec_bin (fun _ => cat_run (by (try simp only [List.length_append, List.length_cons, List.length_nil, List.length_replicate, be_len]); omega))) (hi := rfl) (k := ?_)
          refine WA.step 16 (hi := rfl) (k := ?_)
          refine WL.op (d := 5) (.string ⟨([(UInt8.ofNat ((p.length) % 256))] ++ (be 4 (crc (p ++ ((be 8 e) ++ (be 8 n))))) ++ p).toArray⟩) (k := ?_)
          refine WL.nil ?_
          refine WX.nxtL ?_
          refine WA.done (k := ?_)
          clear KC
          refine WX.seqN ?_
          refine WC.seq ?_
          refine WC.block ?_
          refine WC.rw (t := 5) (v := .string ⟨(mk0 p e n ++ List.replicate 0 (0 : UInt8)).toArray⟩) (congrArg (fun l : List UInt8 => Value.string ⟨l.toArray⟩) (show [(UInt8.ofNat ((p.length) % 256))] ++ (be 4 (crc (p ++ ((be 8 e) ++ (be 8 n))))) ++ p = mk0 p e n ++ List.replicate 0 (0 : UInt8) by simp [mk0, tagsS, Nat.mod_eq_of_lt (show p.length < 256 by omega)])) (k := ?_)
          refine WC.rw (t := 4) (v := .string ⟨(tagsS e n).toArray⟩) (congrArg (fun l : List UInt8 => Value.string ⟨l.toArray⟩) rfl) (k := ?_)
          refine WC.loop (ι := Nat) (fun (j : Nat) => [(0, .agg #[.string ⟨(p).toArray⟩, .int .u64 ((e : Nat) : Int), .int .u64 ((n : Nat) : Int)]), (1, .pointer (some ⟨b1, 0, none⟩)), (2, .string ⟨#[]⟩), (3, .int .i64 0), (6, .pointer (some ⟨b1, 0, none⟩)), (7, .string ⟨(p).toArray⟩), (8, .int .i64 (p.length : Int)), (9, .bool (decide ((p.length : Int) > 43))), (10, .pointer (some ⟨b1, 1, none⟩)), (11, .int .u64 ((e : Nat) : Int)), (12, .string ⟨(be 8 e).toArray⟩), (13, .pointer (some ⟨b1, 2, none⟩)), (14, .int .u64 ((n : Nat) : Int)), (15, .string ⟨(be 8 n).toArray⟩), (16, .string ⟨((be 8 e) ++ (be 8 n)).toArray⟩), (4, .string ⟨(tagsS e n).toArray⟩), (17, .pointer (some ⟨b1, 0, none⟩)), (18, .string ⟨(p).toArray⟩), (19, .int .i64 (p.length : Int)), (20, .int .u8 ((UInt8.ofNat ((p.length) % 256)).toNat : Int)), (23, .pointer (some ⟨b1, 0, none⟩)), (24, .string ⟨(p).toArray⟩), (25, .string ⟨((be 8 e) ++ (be 8 n)).toArray⟩), (26, .string ⟨(p ++ ((be 8 e) ++ (be 8 n))).toArray⟩), (30, .pointer (some ⟨b1, 0, none⟩)), (31, .string ⟨(p).toArray⟩), (21, .slice (some ⟨b16, 0, none⟩) 1 1), (27, .int .u32 ((crc (p ++ ((be 8 e) ++ (be 8 n))) : Nat) : Int)), (28, .string ⟨(be 4 (crc (p ++ ((be 8 e) ++ (be 8 n))))).toArray⟩), (22, .string ⟨#[(UInt8.ofNat ((p.length) % 256))]⟩), (29, .string ⟨([(UInt8.ofNat ((p.length) % 256))] ++ (be 4 (crc (p ++ ((be 8 e) ++ (be 8 n)))))).toArray⟩), (32, .string ⟨([(UInt8.ofNat ((p.length) % 256))] ++ (be 4 (crc (p ++ ((be 8 e) ++ (be 8 n))))) ++ p).toArray⟩), (5, .string ⟨(mk0 p e n ++ List.replicate j (0 : UInt8)).toArray⟩)]) (fun (j : Nat) (w_ : World) => (Keeps (fun _ => False) w w_) ∧ (w_.heap[b1]? = some (.cells #[.string ⟨(p).toArray⟩, .int .u64 ((e : Nat) : Int), .int .u64 ((n : Nat) : Int)] 72 (0, 0))) ∧ (w_.heap[b16]? = some (.cells #[.int .u8 ((UInt8.ofNat ((p.length) % 256)).toNat : Int)] 5 (0, 0))) ∧ (j ≤ 43 - p.length)) (fun (j : Nat) => (43 - j)) 0 ⟨(by kernel_rfl), (by kernel_rfl), (by kernel_rfl), (by kernel_rfl), (by kernel_rfl), (by kernel_rfl), (by kernel_rfl), (by kernel_rfl), (by kernel_rfl), (by kernel_rfl), (by kernel_rfl), (by kernel_rfl), (by kernel_rfl), (by kernel_rfl), (by kernel_rfl), (by kernel_rfl), (by kernel_rfl), (by kernel_rfl), (by kernel_rfl), (by kernel_rfl), (by kernel_rfl), (by kernel_rfl), (by kernel_rfl), (by kernel_rfl), (by kernel_rfl), (by kernel_rfl), (by kernel_rfl), (by kernel_rfl), (by kernel_rfl), (by kernel_rfl), (by kernel_rfl), (by kernel_rfl), (by kernel_rfl), trivial⟩ ⟨K, hb4, hb19, (by omega)⟩ ?_
          rintro j w44 ⟨K, hb45, hb46, j1⟩
          have lm_ := mk0_len p e n
          have lj_ : (mk0 p e n ++ List.replicate j (0 : UInt8)).length = 5 + p.length + j := by simp [lm_]
          have lt_ := tagsS_len e n
          refine WC.seq ?_
          refine WC.seq ?_
          refine WC.region ?_
          refine WL.op (d := 33) (.string ⟨(mk0 p e n ++ List.replicate j (0 : UInt8)).toArray⟩) (k := ?_)
          refine WL.op (d := 34) (.int .i64 ((mk0 p e n ++ List.replicate j (0 : UInt8)).length : Int)) (k := ?_)
          refine WL.op (d := 35) (.bool (decide (((mk0 p e n ++ List.replicate j (0 : UInt8)).length : Int) < 48))) (k := ?_)
          refine WL.nil ?_
          refine WX.seqN ?_
          refine WC.cond (b := decide (((mk0 p e n ++ List.replicate j (0 : UInt8)).length : Int) < 48)) (ht := fun h47 => ?_) (hf := fun h47 => ?_)
          · have ph47 := of_decide_eq_true h47
            refine WC.skip ?_
            refine WX.seqN ?_
            refine WC.block ?_
            refine WC.region ?_
            refine WL.op (d := 36) (.string ⟨(mk0 p e n ++ List.replicate j (0 : UInt8)).toArray⟩) (k := ?_)
            refine WL.bin (d := 37) (v := .string ⟨(mk0 p e n ++ List.replicate j (0 : UInt8) ++ [0]).toArray⟩) (cat_run (by (try simp only [List.length_append, List.length_cons, List.length_nil, List.length_replicate, be_len]); omega)) (k := ?_)
            refine WL.op (d := 5) (.string ⟨(mk0 p e n ++ List.replicate j (0 : UInt8) ++ [0]).toArray⟩) (k := ?_)
            refine WL.nil ?_
            refine WX.blockN ?_
            refine WX.rw (t := 5) (v := .string ⟨(mk0 p e n ++ List.replicate (j + 1) (0 : UInt8)).toArray⟩) (congrArg (fun l : List UInt8 => Value.string ⟨l.toArray⟩) (pad_one _ j)) (k := ?_)
            refine WX.round (j + 1) (by show (43 - (j + 1)) < (43 - j); omega) ⟨(by kernel_rfl), (by kernel_rfl), (by kernel_rfl), (by kernel_rfl), (by kernel_rfl), (by kernel_rfl), (by kernel_rfl), (by kernel_rfl), (by kernel_rfl), (by kernel_rfl), (by kernel_rfl), (by kernel_rfl), (by kernel_rfl), (by kernel_rfl), (by kernel_rfl), (by kernel_rfl), (by kernel_rfl), (by kernel_rfl), (by kernel_rfl), (by kernel_rfl), (by kernel_rfl), (by kernel_rfl), (by kernel_rfl), (by kernel_rfl), (by kernel_rfl), (by kernel_rfl), (by kernel_rfl), (by kernel_rfl), (by kernel_rfl), (by kernel_rfl), (by kernel_rfl), (by kernel_rfl), (by kernel_rfl), trivial⟩ ⟨K, hb45, hb46, (by omega)⟩
          · have ph47 := of_decide_eq_false h47
            refine WC.exit ?_
            refine WX.seqE ?_
            refine WX.seqE ?_
            refine WX.blockE ?_
            refine WX.seqN ?_
            refine WC.seq ?_
            refine WC.region ?_
            refine WL.op (d := 38) (.string ⟨(mk0 p e n ++ List.replicate j (0 : UInt8)).toArray⟩) (k := ?_)
            refine WL.op (d := 39) (.string ⟨(tagsS e n).toArray⟩) (k := ?_)
            refine WL.bin (d := 40) (v := .string ⟨(mk0 p e n ++ List.replicate j (0 : UInt8) ++ (tagsS e n)).toArray⟩) (cat_run (by (try simp only [List.length_append, List.length_cons, List.length_nil, List.length_replicate, be_len]); omega)) (k := ?_)
            refine WL.op (d := 2) (.string ⟨(mk0 p e n ++ List.replicate j (0 : UInt8) ++ (tagsS e n)).toArray⟩) (k := ?_)
            refine WL.op (d := 3) (.int .i64 0) (k := ?_)
            refine WL.nil ?_
            refine WX.seqN ?_
            refine WC.ret ?_
            refine WX.ret (rs := [.tmp 2, .tmp 3]) [.string ⟨(mk0 p e n ++ List.replicate j (0 : UInt8) ++ (tagsS e n)).toArray⟩, .int .i64 0] (.tuple #[.string ⟨(mk0 p e n ++ List.replicate j (0 : UInt8) ++ (tagsS e n)).toArray⟩, .int .i64 0]) ⟨(by kernel_rfl), (by kernel_rfl), trivial⟩ (k := ?_)
            exact ⟨by rw [mk0_end (j := j) (by omega)], K⟩
    · refine WL.callG (d := 27) (f := 49) (args := #[.string ⟨(p ++ ((be 8 e) ++ (be 8 n))).toArray⟩]) (u02Sum_c (l := p ++ ((be 8 e) ++ (be 8 n))) (by show List.length (p ++ ((be 8 e) ++ (be 8 n))) ≤ _; first | omega | (simp; done) | (simp; omega)) w12) (k := fun e_ w49 h_ => ⟨.int .u32 ((crc (p ++ ((be 8 e) ++ (be 8 n))) : Nat) : Int), h_.1, ?_⟩)
      have k50 := h_.2; clear h_
      replace hb4 := k50.heap hb4 id
      replace K := K.trans (k50.any _)
      replace KC := KC.trans (k50.any _)
      have cl48 := crc_lt (p ++ ((be 8 e) ++ (be 8 n)))
      refine WL.nil ?_
      refine WX.nxt KC ?_
      refine WA.step2 4 11 (hi := rfl) (hj := rfl) (k1 := ?_) (k2 := ?_)
      · refine WL.newF (d := 21) (T := 5) #[.int .u8 ((UInt8.ofNat ((p.length) % 256)).toNat : Int)] (fun b => .slice (some ⟨b, 0, none⟩) 1 1) (k := fun b51 w52 g53 hb54 k55 => ?_)
        have z56 := Nat.le_trans K.size g53
        have zc57 := Nat.le_trans KC.size g53
        have n58 : b1 ≠ b51 := Nat.ne_of_lt (Nat.lt_of_lt_of_le (lt_of_heap hb4) g53)
        replace hb4 := k55.heap hb4 id
        replace K := K.trans (k55.any _)
        replace KC := KC.trans (k55.any _)
        refine WL.nil ?_
        refine WX.nxt KC ?_
        refine WA.step2 5 11 (hi := rfl) (hj := rfl) (k1 := ?_) (k2 := ?_)
        · refine WL.conv (d := 22) (vx := .slice (some ⟨b51, 0, none⟩) 1 1) (v := .string ⟨#[(UInt8.ofNat ((p.length) % 256))]⟩) (run_ofBytes (T := 61) (S := 9) (E := 5) (l := [(UInt8.ofNat ((p.length) % 256))]) (by kernel_rfl) (by kernel_rfl) (by kernel_rfl) hb54 rfl (by kernel_rfl)) (k := ?_)
          refine WL.nil ?_
          refine WX.nxt KC ?_
          refine WA.step 11 (hi := rfl) (k := ?_)
          refine WL.callG (d := 28) (f := 48) (args := #[.int .u32 ((crc (p ++ ((be 8 e) ++ (be 8 n))) : Nat) : Int)]) (u02Bytes_c (n := crc (p ++ ((be 8 e) ++ (be 8 n)))) (by omega) w52) (k := fun e_ w59 h_ => ⟨.string ⟨(be 4 (crc (p ++ ((be 8 e) ++ (be 8 n))))).toArray⟩, h_.1, ?_⟩)
          have k60 := h_.2; clear h_
          replace hb4 := k60.heap hb4 id
          replace hb54 := k60.heap hb54 id
          replace K := K.trans (k60.any _)
          replace KC := KC.trans (k60.any _)
          refine WL.nil ?_
          refine WX.nxt KC ?_
          refine WA.quietR 12 (d := 29) (.string ⟨([(UInt8.ofNat ((p.length) % 256))] ++ (be 4 (crc (p ++ ((be 8 e) ++ (be 8 n)))))).toArray⟩) KC (exec_bin (fun _ => cat_run (by (try simp only [List.length_append, List.length_cons, List.length_nil, List.length_replicate, be_len]); omega))) (hi := rfl) (k := ?_)
          refine WA.quietR 15 (d := 32) (.string ⟨([(UInt8.ofNat ((p.length) % 256))] ++ (be 4 (crc (p ++ ((be 8 e) ++ (be 8 n))))) ++ p).toArray⟩) KC (exec_bin (fun _ => cat_run (by (try simp only [List.length_append, List.length_cons, List.length_nil, List.length_replicate, be_len]); omega))) (hi := rfl) (k := ?_)
          refine WA.step 16 (hi := rfl) (k := ?_)
          refine WL.op (d := 5) (.string ⟨([(UInt8.ofNat ((p.length) % 256))] ++ (be 4 (crc (p ++ ((be 8 e) ++ (be 8 n))))) ++ p).toArray⟩) (k := ?_)
          refine WL.nil ?_
          refine WX.nxtL ?_
          refine WA.done (k := ?_)
          clear KC
          refine WX.seqN ?_
          refine WC.seq ?_
          refine WC.block ?_
          refine WC.rw (t := 5) (v := .string ⟨(mk0 p e n ++ List.replicate 0 (0 : UInt8)).toArray⟩) (congrArg (fun l : List UInt8 => Value.string ⟨l.toArray⟩) (show [(UInt8.ofNat ((p.length) % 256))] ++ (be 4 (crc (p ++ ((be 8 e) ++ (be 8 n))))) ++ p = mk0 p e n ++ List.replicate 0 (0 : UInt8) by simp [mk0, tagsS, Nat.mod_eq_of_lt (show p.length < 256 by omega)])) (k := ?_)
          refine WC.rw (t := 4) (v := .string ⟨(tagsS e n).toArray⟩) (congrArg (fun l : List UInt8 => Value.string ⟨l.toArray⟩) rfl) (k := ?_)
          refine WC.loop (ι := Nat) (fun (j : Nat) => [(0, .agg #[.string ⟨(p).toArray⟩, .int .u64 ((e : Nat) : Int), .int .u64 ((n : Nat) : Int)]), (1, .pointer (some ⟨b1, 0, none⟩)), (2, .string ⟨#[]⟩), (3, .int .i64 0), (6, .pointer (some ⟨b1, 0, none⟩)), (7, .string ⟨(p).toArray⟩), (8, .int .i64 (p.length : Int)), (9, .bool (decide ((p.length : Int) > 43))), (10, .pointer (some ⟨b1, 1, none⟩)), (11, .int .u64 ((e : Nat) : Int)), (12, .string ⟨(be 8 e).toArray⟩), (13, .pointer (some ⟨b1, 2, none⟩)), (14, .int .u64 ((n : Nat) : Int)), (15, .string ⟨(be 8 n).toArray⟩), (16, .string ⟨((be 8 e) ++ (be 8 n)).toArray⟩), (4, .string ⟨(tagsS e n).toArray⟩), (17, .pointer (some ⟨b1, 0, none⟩)), (18, .string ⟨(p).toArray⟩), (19, .int .i64 (p.length : Int)), (20, .int .u8 ((UInt8.ofNat ((p.length) % 256)).toNat : Int)), (23, .pointer (some ⟨b1, 0, none⟩)), (24, .string ⟨(p).toArray⟩), (25, .string ⟨((be 8 e) ++ (be 8 n)).toArray⟩), (26, .string ⟨(p ++ ((be 8 e) ++ (be 8 n))).toArray⟩), (30, .pointer (some ⟨b1, 0, none⟩)), (31, .string ⟨(p).toArray⟩), (27, .int .u32 ((crc (p ++ ((be 8 e) ++ (be 8 n))) : Nat) : Int)), (21, .slice (some ⟨b51, 0, none⟩) 1 1), (22, .string ⟨#[(UInt8.ofNat ((p.length) % 256))]⟩), (28, .string ⟨(be 4 (crc (p ++ ((be 8 e) ++ (be 8 n))))).toArray⟩), (29, .string ⟨([(UInt8.ofNat ((p.length) % 256))] ++ (be 4 (crc (p ++ ((be 8 e) ++ (be 8 n)))))).toArray⟩), (32, .string ⟨([(UInt8.ofNat ((p.length) % 256))] ++ (be 4 (crc (p ++ ((be 8 e) ++ (be 8 n))))) ++ p).toArray⟩), (5, .string ⟨(mk0 p e n ++ List.replicate j (0 : UInt8)).toArray⟩)]) (fun (j : Nat) (w_ : World) => (Keeps (fun _ => False) w w_) ∧ (w_.heap[b1]? = some (.cells #[.string ⟨(p).toArray⟩, .int .u64 ((e : Nat) : Int), .int .u64 ((n : Nat) : Int)] 72 (0, 0))) ∧ (w_.heap[b51]? = some (.cells #[.int .u8 ((UInt8.ofNat ((p.length) % 256)).toNat : Int)] 5 (0, 0))) ∧ (j ≤ 43 - p.length)) (fun (j : Nat) => (43 - j)) 0 ⟨(by kernel_rfl), (by kernel_rfl), (by kernel_rfl), (by kernel_rfl), (by kernel_rfl), (by kernel_rfl), (by kernel_rfl), (by kernel_rfl), (by kernel_rfl), (by kernel_rfl), (by kernel_rfl), (by kernel_rfl), (by kernel_rfl), (by kernel_rfl), (by kernel_rfl), (by kernel_rfl), (by kernel_rfl), (by kernel_rfl), (by kernel_rfl), (by kernel_rfl), (by kernel_rfl), (by kernel_rfl), (by kernel_rfl), (by kernel_rfl), (by kernel_rfl), (by kernel_rfl), (by kernel_rfl), (by kernel_rfl), (by kernel_rfl), (by kernel_rfl), (by kernel_rfl), (by kernel_rfl), (by kernel_rfl), trivial⟩ ⟨K, hb4, hb54, (by omega)⟩ ?_
          rintro j w61 ⟨K, hb62, hb63, j1⟩
          have lm_ := mk0_len p e n
          have lj_ : (mk0 p e n ++ List.replicate j (0 : UInt8)).length = 5 + p.length + j := by simp [lm_]
          have lt_ := tagsS_len e n
          refine WC.seq ?_
          refine WC.seq ?_
          refine WC.region ?_
          refine WL.op (d := 33) (.string ⟨(mk0 p e n ++ List.replicate j (0 : UInt8)).toArray⟩) (k := ?_)
          refine WL.op (d := 34) (.int .i64 ((mk0 p e n ++ List.replicate j (0 : UInt8)).length : Int)) (k := ?_)
          refine WL.op (d := 35) (.bool (decide (((mk0 p e n ++ List.replicate j (0 : UInt8)).length : Int) < 48))) (k := ?_)
          refine WL.nil ?_
          refine WX.seqN ?_
          refine WC.cond (b := decide (((mk0 p e n ++ List.replicate j (0 : UInt8)).length : Int) < 48)) (ht := fun h64 => ?_) (hf := fun h64 => ?_)
          · have ph64 := of_decide_eq_true h64
            refine WC.skip ?_
            refine WX.seqN ?_
            refine WC.block ?_
            refine WC.region ?_
            refine WL.op (d := 36) (.string ⟨(mk0 p e n ++ List.replicate j (0 : UInt8)).toArray⟩) (k := ?_)
            refine WL.bin (d := 37) (v := .string ⟨(mk0 p e n ++ List.replicate j (0 : UInt8) ++ [0]).toArray⟩) (cat_run (by (try simp only [List.length_append, List.length_cons, List.length_nil, List.length_replicate, be_len]); omega)) (k := ?_)
            refine WL.op (d := 5) (.string ⟨(mk0 p e n ++ List.replicate j (0 : UInt8) ++ [0]).toArray⟩) (k := ?_)
            refine WL.nil ?_
            refine WX.blockN ?_
            refine WX.rw (t := 5) (v := .string ⟨(mk0 p e n ++ List.replicate (j + 1) (0 : UInt8)).toArray⟩) (congrArg (fun l : List UInt8 => Value.string ⟨l.toArray⟩) (pad_one _ j)) (k := ?_)
            refine WX.round (j + 1) (by show (43 - (j + 1)) < (43 - j); omega) ⟨(by kernel_rfl), (by kernel_rfl), (by kernel_rfl), (by kernel_rfl), (by kernel_rfl), (by kernel_rfl), (by kernel_rfl), (by kernel_rfl), (by kernel_rfl), (by kernel_rfl), (by kernel_rfl), (by kernel_rfl), (by kernel_rfl), (by kernel_rfl), (by kernel_rfl), (by kernel_rfl), (by kernel_rfl), (by kernel_rfl), (by kernel_rfl), (by kernel_rfl), (by kernel_rfl), (by kernel_rfl), (by kernel_rfl), (by kernel_rfl), (by kernel_rfl), (by kernel_rfl), (by kernel_rfl), (by kernel_rfl), (by kernel_rfl), (by kernel_rfl), (by kernel_rfl), (by kernel_rfl), (by kernel_rfl), trivial⟩ ⟨K, hb62, hb63, (by omega)⟩
          · have ph64 := of_decide_eq_false h64
            refine WC.exit ?_
            refine WX.seqE ?_
            refine WX.seqE ?_
            refine WX.blockE ?_
            refine WX.seqN ?_
            refine WC.seq ?_
            refine WC.region ?_
            refine WL.op (d := 38) (.string ⟨(mk0 p e n ++ List.replicate j (0 : UInt8)).toArray⟩) (k := ?_)
            refine WL.op (d := 39) (.string ⟨(tagsS e n).toArray⟩) (k := ?_)
            refine WL.bin (d := 40) (v := .string ⟨(mk0 p e n ++ List.replicate j (0 : UInt8) ++ (tagsS e n)).toArray⟩) (cat_run (by (try simp only [List.length_append, List.length_cons, List.length_nil, List.length_replicate, be_len]); omega)) (k := ?_)
            refine WL.op (d := 2) (.string ⟨(mk0 p e n ++ List.replicate j (0 : UInt8) ++ (tagsS e n)).toArray⟩) (k := ?_)
            refine WL.op (d := 3) (.int .i64 0) (k := ?_)
            refine WL.nil ?_
            refine WX.seqN ?_
            refine WC.ret ?_
            refine WX.ret (rs := [.tmp 2, .tmp 3]) [.string ⟨(mk0 p e n ++ List.replicate j (0 : UInt8) ++ (tagsS e n)).toArray⟩, .int .i64 0] (.tuple #[.string ⟨(mk0 p e n ++ List.replicate j (0 : UInt8) ++ (tagsS e n)).toArray⟩, .int .i64 0]) ⟨(by kernel_rfl), (by kernel_rfl), trivial⟩ (k := ?_)
            exact ⟨by rw [mk0_end (j := j) (by omega)], K⟩
        · refine WL.callG (d := 28) (f := 48) (args := #[.int .u32 ((crc (p ++ ((be 8 e) ++ (be 8 n))) : Nat) : Int)]) (u02Bytes_c (n := crc (p ++ ((be 8 e) ++ (be 8 n)))) (by omega) w52) (k := fun e_ w65 h_ => ⟨.string ⟨(be 4 (crc (p ++ ((be 8 e) ++ (be 8 n))))).toArray⟩, h_.1, ?_⟩)
          have k66 := h_.2; clear h_
          replace hb4 := k66.heap hb4 id
          replace hb54 := k66.heap hb54 id
          replace K := K.trans (k66.any _)
          replace KC := KC.trans (k66.any _)
          refine WL.nil ?_
          refine WX.nxt KC ?_
          refine WA.step 5 (hi := rfl) (k := ?_)
          refine WL.conv (d := 22) (vx := .slice (some ⟨b51, 0, none⟩) 1 1) (v := .string ⟨#[(UInt8.ofNat ((p.length) % 256))]⟩) (run_ofBytes (T := 61) (S := 9) (E := 5) (l := [(UInt8.ofNat ((p.length) % 256))]) (by kernel_rfl) (by kernel_rfl) (by kernel_rfl) hb54 rfl (by kernel_rfl)) (k := ?_)
          refine WL.nil ?_
          refine WX.nxt KC ?_
          refine WA.quietR 12 (d := 29) (.string ⟨([(UInt8.ofNat ((p.length) % 256))] ++ (be 4 (crc (p ++ ((be 8 e) ++ (be 8 n)))))).toArray⟩) KC (exec_bin (fun _ => cat_run (by (try simp only [List.length_append, List.length_cons, List.length_nil, List.length_replicate, be_len]); omega))) (hi := rfl) (k := ?_)
          refine WA.quietR 15 (d := 32) (.string ⟨([(UInt8.ofNat ((p.length) % 256))] ++ (be 4 (crc (p ++ ((be 8 e) ++ (be 8 n))))) ++ p).toArray⟩) KC (exec_bin (fun _ => cat_run (by (try simp only [List.length_append, List.length_cons, List.length_nil, List.length_replicate, be_len]); omega))) (hi := rfl) (k := ?_)
          refine WA.step 16 (hi := rfl) (k := ?_)
          refine WL.op (d := 5) (.string ⟨([(UInt8.ofNat ((p.length) % 256))] ++ (be 4 (crc (p ++ ((be 8 e) ++ (be 8 n))))) ++ p).toArray⟩) (k := ?_)
          refine WL.nil ?_
          refine WX.nxtL ?_
          refine WA.done (k := ?_)
          clear KC
          refine WX.seqN ?_
          refine WC.seq ?_
          refine WC.block ?_
          refine WC.rw (t := 5) (v := .string ⟨(mk0 p e n ++ List.replicate 0 (0 : UInt8)).toArray⟩) (congrArg (fun l : List UInt8 => Value.string ⟨l.toArray⟩) (show [(UInt8.ofNat ((p.length) % 256))] ++ (be 4 (crc (p ++ ((be 8 e) ++ (be 8 n))))) ++ p = mk0 p e n ++ List.replicate 0 (0 : UInt8) by simp [mk0, tagsS, Nat.mod_eq_of_lt (show p.length < 256 by omega)])) (k := ?_)
          refine WC.rw (t := 4) (v := .string ⟨(tagsS e n).toArray⟩) (congrArg (fun l : List UInt8 => Value.string ⟨l.toArray⟩) rfl) (k := ?_)
          refine WC.loop (ι := Nat) (fun (j : Nat) => [(0, .agg #[.string ⟨(p).toArray⟩, .int .u64 ((e : Nat) : Int), .int .u64 ((n : Nat) : Int)]), (1, .pointer (some ⟨b1, 0, none⟩)), (2, .string ⟨#[]⟩), (3, .int .i64 0), (6, .pointer (some ⟨b1, 0, none⟩)), (7, .string ⟨(p).toArray⟩), (8, .int .i64 (p.length : Int)), (9, .bool (decide ((p.length : Int) > 43))), (10, .pointer (some ⟨b1, 1, none⟩)), (11, .int .u64 ((e : Nat) : Int)), (12, .string ⟨(be 8 e).toArray⟩), (13, .pointer (some ⟨b1, 2, none⟩)), (14, .int .u64 ((n : Nat) : Int)), (15, .string ⟨(be 8 n).toArray⟩), (16, .string ⟨((be 8 e) ++ (be 8 n)).toArray⟩), (4, .string ⟨(tagsS e n).toArray⟩), (17, .pointer (some ⟨b1, 0, none⟩)), (18, .string ⟨(p).toArray⟩), (19, .int .i64 (p.length : Int)), (20, .int .u8 ((UInt8.ofNat ((p.length) % 256)).toNat : Int)), (23, .pointer (some ⟨b1, 0, none⟩)), (24, .string ⟨(p).toArray⟩), (25, .string ⟨((be 8 e) ++ (be 8 n)).toArray⟩), (26, .string ⟨(p ++ ((be 8 e) ++ (be 8 n))).toArray⟩), (30, .pointer (some ⟨b1, 0, none⟩)), (31, .string ⟨(p).toArray⟩), (27, .int .u32 ((crc (p ++ ((be 8 e) ++ (be 8 n))) : Nat) : Int)), (21, .slice (some ⟨b51, 0, none⟩) 1 1), (28, .string ⟨(be 4 (crc (p ++ ((be 8 e) ++ (be 8 n))))).toArray⟩), (22, .string ⟨#[(UInt8.ofNat ((p.length) % 256))]⟩), (29, .string ⟨([(UInt8.ofNat ((p.length) % 256))] ++ (be 4 (crc (p ++ ((be 8 e) ++ (be 8 n)))))).toArray⟩), (32, .string ⟨([(UInt8.ofNat ((p.length) % 256))] ++ (be 4 (crc (p ++ ((be 8 e) ++ (be 8 n))))) ++ p).toArray⟩), (5, .string ⟨(mk0 p e n ++ List.replicate j (0 : UInt8)).toArray⟩)]) (fun (j : Nat) (w_ : World) => (Keeps (fun _ => False) w w_) ∧ (w_.heap[b1]? = some (.cells #[.string ⟨(p).toArray⟩, .int .u64 ((e : Nat) : Int), .int .u64 ((n : Nat) : Int)] 72 (0, 0))) ∧ (w_.heap[b51]? = some (.cells #[.int .u8 ((UInt8.ofNat ((p.length) % 256)).toNat : Int)] 5 (0, 0))) ∧ (j ≤ 43 - p.length)) (fun (j : Nat) => (43 - j)) 0 ⟨(by kernel_rfl), (by kernel_rfl), (by kernel_rfl), (by kernel_rfl), (by kernel_rfl), (by kernel_rfl), (by kernel_rfl), (by kernel_rfl), (by kernel_rfl), (by kernel_rfl), (by kernel_rfl), (by kernel_rfl), (by kernel_rfl), (by kernel_rfl), (by kernel_rfl), (by kernel_rfl), (by kernel_rfl), (by kernel_rfl), (by kernel_rfl), (by kernel_rfl), (by kernel_rfl), (by kernel_rfl), (by kernel_rfl), (by kernel_rfl), (by kernel_rfl), (by kernel_rfl), (by kernel_rfl), (by kernel_rfl), (by kernel_rfl), (by kernel_rfl), (by kernel_rfl), (by kernel_rfl), (by kernel_rfl), trivial⟩ ⟨K, hb4, hb54, (by omega)⟩ ?_
          rintro j w67 ⟨K, hb68, hb69, j1⟩
          have lm_ := mk0_len p e n
          have lj_ : (mk0 p e n ++ List.replicate j (0 : UInt8)).length = 5 + p.length + j := by simp [lm_]
          have lt_ := tagsS_len e n
          refine WC.seq ?_
          refine WC.seq ?_
          refine WC.region ?_
          refine WL.op (d := 33) (.string ⟨(mk0 p e n ++ List.replicate j (0 : UInt8)).toArray⟩) (k := ?_)
          refine WL.op (d := 34) (.int .i64 ((mk0 p e n ++ List.replicate j (0 : UInt8)).length : Int)) (k := ?_)
          refine WL.op (d := 35) (.bool (decide (((mk0 p e n ++ List.replicate j (0 : UInt8)).length : Int) < 48))) (k := ?_)
          refine WL.nil ?_
          refine WX.seqN ?_
          refine WC.cond (b := decide (((mk0 p e n ++ List.replicate j (0 : UInt8)).length : Int) < 48)) (ht := fun h70 => ?_) (hf := fun h70 => ?_)
          · have ph70 := of_decide_eq_true h70
            refine WC.skip ?_
            refine WX.seqN ?_
            refine WC.block ?_
            refine WC.region ?_
            refine WL.op (d := 36) (.string ⟨(mk0 p e n ++ List.replicate j (0 : UInt8)).toArray⟩) (k := ?_)
            refine WL.bin (d := 37) (v := .string ⟨(mk0 p e n ++ List.replicate j (0 : UInt8) ++ [0]).toArray⟩) (cat_run (by (try simp only [List.length_append, List.length_cons, List.length_nil, List.length_replicate, be_len]); omega)) (k := ?_)
            refine WL.op (d := 5) (.string ⟨(mk0 p e n ++ List.replicate j (0 : UInt8) ++ [0]).toArray⟩) (k := ?_)
            refine WL.nil ?_
            refine WX.blockN ?_
            refine WX.rw (t := 5) (v := .string ⟨(mk0 p e n ++ List.replicate (j + 1) (0 : UInt8)).toArray⟩) (congrArg (fun l : List UInt8 => Value.string ⟨l.toArray⟩) (pad_one _ j)) (k := ?_)
            refine WX.round (j + 1) (by show (43 - (j + 1)) < (43 - j); omega) ⟨(by kernel_rfl), (by kernel_rfl), (by kernel_rfl), (by kernel_rfl), (by kernel_rfl), (by kernel_rfl), (by kernel_rfl), (by kernel_rfl), (by kernel_rfl), (by kernel_rfl), (by kernel_rfl), (by kernel_rfl), (by kernel_rfl), (by kernel_rfl), (by kernel_rfl), (by kernel_rfl), (by kernel_rfl), (by kernel_rfl), (by kernel_rfl), (by kernel_rfl), (by kernel_rfl), (by kernel_rfl), (by kernel_rfl), (by kernel_rfl), (by kernel_rfl), (by kernel_rfl), (by kernel_rfl), (by kernel_rfl), (by kernel_rfl), (by kernel_rfl), (by kernel_rfl), (by kernel_rfl), (by kernel_rfl), trivial⟩ ⟨K, hb68, hb69, (by omega)⟩
          · have ph70 := of_decide_eq_false h70
            refine WC.exit ?_
            refine WX.seqE ?_
            refine WX.seqE ?_
            refine WX.blockE ?_
            refine WX.seqN ?_
            refine WC.seq ?_
            refine WC.region ?_
            refine WL.op (d := 38) (.string ⟨(mk0 p e n ++ List.replicate j (0 : UInt8)).toArray⟩) (k := ?_)
            refine WL.op (d := 39) (.string ⟨(tagsS e n).toArray⟩) (k := ?_)
            refine WL.bin (d := 40) (v := .string ⟨(mk0 p e n ++ List.replicate j (0 : UInt8) ++ (tagsS e n)).toArray⟩) (cat_run (by (try simp only [List.length_append, List.length_cons, List.length_nil, List.length_replicate, be_len]); omega)) (k := ?_)
            refine WL.op (d := 2) (.string ⟨(mk0 p e n ++ List.replicate j (0 : UInt8) ++ (tagsS e n)).toArray⟩) (k := ?_)
            refine WL.op (d := 3) (.int .i64 0) (k := ?_)
            refine WL.nil ?_
            refine WX.seqN ?_
            refine WC.ret ?_
            refine WX.ret (rs := [.tmp 2, .tmp 3]) [.string ⟨(mk0 p e n ++ List.replicate j (0 : UInt8) ++ (tagsS e n)).toArray⟩, .int .i64 0] (.tuple #[.string ⟨(mk0 p e n ++ List.replicate j (0 : UInt8) ++ (tagsS e n)).toArray⟩, .int .i64 0]) ⟨(by kernel_rfl), (by kernel_rfl), trivial⟩ (k := ?_)
            exact ⟨by rw [mk0_end (j := j) (by omega)], K⟩
      · refine WL.callG (d := 28) (f := 48) (args := #[.int .u32 ((crc (p ++ ((be 8 e) ++ (be 8 n))) : Nat) : Int)]) (u02Bytes_c (n := crc (p ++ ((be 8 e) ++ (be 8 n)))) (by omega) w49) (k := fun e_ w71 h_ => ⟨.string ⟨(be 4 (crc (p ++ ((be 8 e) ++ (be 8 n))))).toArray⟩, h_.1, ?_⟩)
        have k72 := h_.2; clear h_
        replace hb4 := k72.heap hb4 id
        replace K := K.trans (k72.any _)
        replace KC := KC.trans (k72.any _)
        refine WL.nil ?_
        refine WX.nxt KC ?_
        refine WA.step 4 (hi := rfl) (k := ?_)
        refine WL.newF (d := 21) (T := 5) #[.int .u8 ((UInt8.ofNat ((p.length) % 256)).toNat : Int)] (fun b => .slice (some ⟨b, 0, none⟩) 1 1) (k := fun b73 w74 g75 hb76 k77 => ?_)
        have z78 := Nat.le_trans K.size g75
        have zc79 := Nat.le_trans KC.size g75
        have n80 : b1 ≠ b73 := Nat.ne_of_lt (Nat.lt_of_lt_of_le (lt_of_heap hb4) g75)
        replace hb4 := k77.heap hb4 id
        replace K := K.trans (k77.any _)
        replace KC := KC.trans (k77.any _)
        refine WL.nil ?_
        refine WX.nxt KC ?_
        refine WA.step 5 (hi := rfl) (k := ?_)
        refine WL.conv (d := 22) (vx := .slice (some ⟨b73, 0, none⟩) 1 1) (v := .string ⟨#[(UInt8.ofNat ((p.length) % 256))]⟩) (run_ofBytes (T := 61) (S := 9) (E := 5) (l := [(UInt8.ofNat ((p.length) % 256))]) (by kernel_rfl) (by kernel_rfl) (by kernel_rfl) hb76 rfl (by kernel_rfl)) (k := ?_)
        refine WL.nil ?_
        refine WX.nxt KC ?_
        refine WA.quietR 12 (d := 29) (.string ⟨([(UInt8.ofNat ((p.length) % 256))] ++ (be 4 (crc (p ++ ((be 8 e) ++ (be 8 n)))))).toArray⟩) KC (exec_bin (fun _ => cat_run (by (try simp only [List.length_append, List.length_cons, List.length_nil, List.length_replicate, be_len]); omega))) (hi := rfl) (k := ?_)
        refine WA.quietR 15 (d := 32) (.string ⟨([(UInt8.ofNat ((p.length) % 256))] ++ (be 4 (crc (p ++ ((be 8 e) ++ (be 8 n))))) ++ p).toArray⟩) KC (exec_bin (fun _ => cat_run (by (try simp only [List.length_append, List.length_cons, List.length_nil, List.length_replicate, be_len]); omega))) (hi := rfl) (k := ?_)
        refine WA.step 16 (hi := rfl) (k := ?_)
        refine WL.op (d := 5) (.string ⟨([(UInt8.ofNat ((p.length) % 256))] ++ (be 4 (crc (p ++ ((be 8 e) ++ (be 8 n))))) ++ p).toArray⟩) (k := ?_)
        refine WL.nil ?_
        refine WX.nxtL ?_
        refine WA.done (k := ?_)
        clear KC
        refine WX.seqN ?_
        refine WC.seq ?_
        refine WC.block ?_
        refine WC.rw (t := 5) (v := .string ⟨(mk0 p e n ++ List.replicate 0 (0 : UInt8)).toArray⟩) (congrArg (fun l : List UInt8 => Value.string ⟨l.toArray⟩) (show [(UInt8.ofNat ((p.length) % 256))] ++ (be 4 (crc (p ++ ((be 8 e) ++ (be 8 n))))) ++ p = mk0 p e n ++ List.replicate 0 (0 : UInt8) by simp [mk0, tagsS, Nat.mod_eq_of_lt (show p.length < 256 by omega)])) (k := ?_)
        refine WC.rw (t := 4) (v := .string ⟨(tagsS e n).toArray⟩) (congrArg (fun l : List UInt8 => Value.string ⟨l.toArray⟩) rfl) (k := ?_)
        refine WC.loop (ι := Nat) (fun (j : Nat) => [(0, .agg #[.string ⟨(p).toArray⟩, .int .u64 ((e : Nat) : Int), .int .u64 ((n : Nat) : Int)]), (1, .pointer (some ⟨b1, 0, none⟩)), (2, .string ⟨#[]⟩), (3, .int .i64 0), (6, .pointer (some ⟨b1, 0, none⟩)), (7, .string ⟨(p).toArray⟩), (8, .int .i64 (p.length : Int)), (9, .bool (decide ((p.length : Int) > 43))), (10, .pointer (some ⟨b1, 1, none⟩)), (11, .int .u64 ((e : Nat) : Int)), (12, .string ⟨(be 8 e).toArray⟩), (13, .pointer (some ⟨b1, 2, none⟩)), (14, .int .u64 ((n : Nat) : Int)), (15, .string ⟨(be 8 n).toArray⟩), (16, .string ⟨((be 8 e) ++ (be 8 n)).toArray⟩), (4, .string ⟨(tagsS e n).toArray⟩), (17, .pointer (some ⟨b1, 0, none⟩)), (18, .string ⟨(p).toArray⟩), (19, .int .i64 (p.length : Int)), (20, .int .u8 ((UInt8.ofNat ((p.length) % 256)).toNat : Int)), (23, .pointer (some ⟨b1, 0, none⟩)), (24, .string ⟨(p).toArray⟩), (25, .string ⟨((be 8 e) ++ (be 8 n)).toArray⟩), (26, .string ⟨(p ++ ((be 8 e) ++ (be 8 n))).toArray⟩), (30, .pointer (some ⟨b1, 0, none⟩)), (31, .string ⟨(p).toArray⟩), (27, .int .u32 ((crc (p ++ ((be 8 e) ++ (be 8 n))) : Nat) : Int)), (28, .string ⟨(be 4 (crc (p ++ ((be 8 e) ++ (be 8 n))))).toArray⟩), (21, .slice (some ⟨b73, 0, none⟩) 1 1), (22, .string ⟨#[(UInt8.ofNat ((p.length) % 256))]⟩), (29, .string ⟨([(UInt8.ofNat ((p.length) % 256))] ++ (be 4 (crc (p ++ ((be 8 e) ++ (be 8 n)))))).toArray⟩), (32, .string ⟨([(UInt8.ofNat ((p.length) % 256))] ++ (be 4 (crc (p ++ ((be 8 e) ++ (be 8 n))))) ++ p).toArray⟩), (5, .string ⟨(mk0 p e n ++ List.replicate j (0 : UInt8)).toArray⟩)]) (fun (j : Nat) (w_ : World) => (Keeps (fun _ => False) w w_) ∧ (w_.heap[b1]? = some (.cells #[.string ⟨(p).toArray⟩, .int .u64 ((e : Nat) : Int), .int .u64 ((n : Nat) : Int)] 72 (0, 0))) ∧ (w_.heap[b73]? = some (.cells #[.int .u8 ((UInt8.ofNat ((p.length) % 256)).toNat : Int)] 5 (0, 0))) ∧ (j ≤ 43 - p.length)) (fun (j : Nat) => (43 - j)) 0 ⟨(by kernel_rfl), (by kernel_rfl), (by kernel_rfl), (by kernel_rfl), (by kernel_rfl), (by kernel_rfl), (by kernel_rfl), (by kernel_rfl), (by kernel_rfl), (by kernel_rfl), (by kernel_rfl), (by kernel_rfl), (by kernel_rfl), (by kernel_rfl), (by kernel_rfl), (by kernel_rfl), (by kernel_rfl), (by kernel_rfl), (by kernel_rfl), (by kernel_rfl), (by kernel_rfl), (by kernel_rfl), (by kernel_rfl), (by kernel_rfl), (by kernel_rfl), (by kernel_rfl), (by kernel_rfl), (by kernel_rfl), (by kernel_rfl), (by kernel_rfl), (by kernel_rfl), (by kernel_rfl), (by kernel_rfl), trivial⟩ ⟨K, hb4, hb76, (by omega)⟩ ?_
        rintro j w81 ⟨K, hb82, hb83, j1⟩
        have lm_ := mk0_len p e n
        have lj_ : (mk0 p e n ++ List.replicate j (0 : UInt8)).length = 5 + p.length + j := by simp [lm_]
        have lt_ := tagsS_len e n
        refine WC.seq ?_
        refine WC.seq ?_
        refine WC.region ?_
        refine WL.op (d := 33) (.string ⟨(mk0 p e n ++ List.replicate j (0 : UInt8)).toArray⟩) (k := ?_)
        refine WL.op (d := 34) (.int .i64 ((mk0 p e n ++ List.replicate j (0 : UInt8)).length : Int)) (k := ?_)
        refine WL.op (d := 35) (.bool (decide (((mk0 p e n ++ List.replicate j (0 : UInt8)).length : Int) < 48))) (k := ?_)
        refine WL.nil ?_
        refine WX.seqN ?_
        refine WC.cond (b := decide (((mk0 p e n ++ List.replicate j (0 : UInt8)).length : Int) < 48)) (ht := fun h84 => ?_) (hf := fun h84 => ?_)
        · have ph84 := of_decide_eq_true h84
          refine WC.skip ?_
          refine WX.seqN ?_
          refine WC.block ?_
          refine WC.region ?_
          refine WL.op (d := 36) (.string ⟨(mk0 p e n ++ List.replicate j (0 : UInt8)).toArray⟩) (k := ?_)
          refine WL.bin (d := 37) (v := .string ⟨(mk0 p e n ++ List.replicate j (0 : UInt8) ++ [0]).toArray⟩) (cat_run (by (try simp only [List.length_append, List.length_cons, List.length_nil, List.length_replicate, be_len]); omega)) (k := ?_)
          refine WL.op (d := 5) (.string ⟨(mk0 p e n ++ List.replicate j (0 : UInt8) ++ [0]).toArray⟩) (k := ?_)
          refine WL.nil ?_
          refine WX.blockN ?_
          refine WX.rw (t := 5) (v := .string ⟨(mk0 p e n ++ List.replicate (j + 1) (0 : UInt8)).toArray⟩) (congrArg (fun l : List UInt8 => Value.string ⟨l.toArray⟩) (pad_one _ j)) (k := ?_)
          refine WX.round (j + 1) (by show (43 - (j + 1)) < (43 - j); omega) ⟨(by kernel_rfl), (by kernel_rfl), (by kernel_rfl), (by kernel_rfl), (by kernel_rfl), (by kernel_rfl), (by kernel_rfl), (by kernel_rfl), (by kernel_rfl), (by kernel_rfl), (by kernel_rfl), (by kernel_rfl), (by kernel_rfl), (by kernel_rfl), (by kernel_rfl), (by kernel_rfl), (by kernel_rfl), (by kernel_rfl), (by kernel_rfl), (by kernel_rfl), (by kernel_rfl), (by kernel_rfl), (by kernel_rfl), (by kernel_rfl), (by kernel_rfl), (by kernel_rfl), (by kernel_rfl), (by kernel_rfl), (by kernel_rfl), (by kernel_rfl), (by kernel_rfl), (by kernel_rfl), (by kernel_rfl), trivial⟩ ⟨K, hb82, hb83, (by omega)⟩
        · have ph84 := of_decide_eq_false h84
          refine WC.exit ?_
          refine WX.seqE ?_
          refine WX.seqE ?_
          refine WX.blockE ?_
          refine WX.seqN ?_
          refine WC.seq ?_
          refine WC.region ?_
          refine WL.op (d := 38) (.string ⟨(mk0 p e n ++ List.replicate j (0 : UInt8)).toArray⟩) (k := ?_)
          refine WL.op (d := 39) (.string ⟨(tagsS e n).toArray⟩) (k := ?_)
          refine WL.bin (d := 40) (v := .string ⟨(mk0 p e n ++ List.replicate j (0 : UInt8) ++ (tagsS e n)).toArray⟩) (cat_run (by (try simp only [List.length_append, List.length_cons, List.length_nil, List.length_replicate, be_len]); omega)) (k := ?_)
          refine WL.op (d := 2) (.string ⟨(mk0 p e n ++ List.replicate j (0 : UInt8) ++ (tagsS e n)).toArray⟩) (k := ?_)
          refine WL.op (d := 3) (.int .i64 0) (k := ?_)
          refine WL.nil ?_
          refine WX.seqN ?_
          refine WC.ret ?_
          refine WX.ret (rs := [.tmp 2, .tmp 3]) [.string ⟨(mk0 p e n ++ List.replicate j (0 : UInt8) ++ (tagsS e n)).toArray⟩, .int .i64 0] (.tuple #[.string ⟨(mk0 p e n ++ List.replicate j (0 : UInt8) ++ (tagsS e n)).toArray⟩, .int .i64 0]) ⟨(by kernel_rfl), (by kernel_rfl), trivial⟩ (k := ?_)
          exact ⟨by rw [mk0_end (j := j) (by omega)], K⟩
end Go.Proofs.YtnkkbeafcfjkmaaGreatDoor
namespace Go.Proofs.YtnkkbeafcfjkmaaGreatDoor
open Go.RowKit
set_option linter.unusedVariables false
set_option linter.unusedSimpArgs false
theorem head_getD (l : List UInt8) : List.getD l (0 : Int).toNat 0 = l.headD 0 := by cases l <;> rfl
theorem pay_cut (l : List UInt8) : List.drop 5 (List.take (5 + ((List.getD l (0 : Int).toNat 0).toNat : Int)).toNat l) = payS l := by
  rw [head_getD, payS, List.take_drop, show (5 + ((l.headD 0).toNat : Int)).toNat = 5 + (l.headD 0).toNat by omega]
theorem payS_len (l : List UInt8) : ((payS l).length : Int) ≤ ((List.getD l (0 : Int).toNat 0).toNat : Int) := by
  rw [head_getD, payS, List.length_take]; omega
theorem no_len {l : List UInt8} (h : ¬ l.length = 64) : ¬ isCell l := fun k => h k.1
theorem no_head {l : List UInt8} (h : ((List.getD l (0 : Int).toNat 0).toNat : Int) > 43) : ¬ isCell l := fun k => by rw [head_getD] at h; have := k.2.1; omega
section
variable {l r : List UInt8} (h64 : l.length = 64) (h43 : ¬ ((List.getD l (0 : Int).toNat 0).toNat : Int) > 43)
include h64 h43
theorem iff_ : isCell l ↔ crc (payS l ++ List.drop 48 l) = beval (List.take 4 (List.drop 1 l)) ∧ ∀ x ∈ List.drop (5 + ((List.getD l (0 : Int).toNat 0).toNat : Int)).toNat (List.take 48 l), x = 0 := by
  rw [head_getD] at h43
  rw [cell_iff h64 (by omega), head_getD, show (5 + ((l.headD 0).toNat : Int)).toNat = 5 + (l.headD 0).toNat by omega, zeros_iff (n := 43 - (l.headD 0).toNat) (by rw [List.length_drop, List.length_take]; omega)]
theorem no_sum (h : ¬ ((crc (payS l ++ List.drop 48 l) : Nat) : Int) = ((beval (List.take 4 (List.drop 1 l)) : Nat) : Int)) : ¬ isCell l := fun k => h (by rw [((iff_ h64 h43).1 k).1])
theorem no_zero (hr : r = [] ↔ ∀ x ∈ List.drop (5 + ((List.getD l (0 : Int).toNat 0).toNat : Int)).toNat (List.take 48 l), x = 0) (h : ¬ r = []) : ¬ isCell l := fun k => h (hr.2 ((iff_ h64 h43).1 k).2)
theorem yes_ (h : ((crc (payS l ++ List.drop 48 l) : Nat) : Int) = ((beval (List.take 4 (List.drop 1 l)) : Nat) : Int)) (hr : r = [] ↔ ∀ x ∈ List.drop (5 + ((List.getD l (0 : Int).toNat 0).toNat : Int)).toNat (List.take 48 l), x = 0) (h0 : r = []) : isCell l := (iff_ h64 h43).2 ⟨by omega, hr.1 h0⟩
theorem mk_iff : isCell l ↔ makeS (payS l) (tgE l) (tgN l) = l := by
  rw [head_getD] at h43
  unfold isCell tgE tgN
  rw [if_pos h64, if_pos h64]
  exact ⟨fun k => k.2.2, fun k => ⟨h64, by omega, k⟩⟩
end
theorem rd_no {l : List UInt8} (h : ¬ isCell l) : rdP l = [] ∧ rdE l = 0 ∧ rdN l = 0 := ⟨if_neg h, if_neg h, if_neg h⟩
theorem rd_yes {l : List UInt8} (h : isCell l) : rdP l = payS l ∧ rdE l = tgE l ∧ rdN l = tgN l := by
  refine ⟨if_pos h, ?_, ?_⟩
  · rw [rdE, if_pos h, tgE, if_pos h.1]
  · rw [rdN, if_pos h, tgN, if_pos h.1]
section
variable {l : List UInt8} {e n : Nat}
theorem wh_no (h : ¬ isCell l) : false = decide (isCell l ∧ rdE l = e ∧ rdN l = n) := (decide_eq_false fun k => h k.1).symm
theorem wh_no2 (h : ¬ ((rdE l : Nat) : Int) = (e : Int)) : false = decide (isCell l ∧ rdE l = e ∧ rdN l = n) := (decide_eq_false fun k => h (by rw [k.2.1])).symm
theorem wh_fin (h : isCell l) (h2 : ((rdE l : Nat) : Int) = (e : Int)) : (((rdN l : Nat) : Int) == (n : Int)) = decide (isCell l ∧ rdE l = e ∧ rdN l = n) := by
  rw [Bool.eq_iff_iff, beq_iff_eq, decide_eq_true_eq]
  exact ⟨fun k => ⟨h, by omega, by omega⟩, fun k => by rw [k.2.2]⟩
end
theorem beval_lt32 (l : List UInt8) : beval (List.take 4 l) < 4294967296 := by
  have h1 := beval_lt (List.take 4 l)
  have h2 : 256 ^ (List.take 4 l).length ≤ 256 ^ 4 := Nat.pow_le_pow_right (by decide) (by rw [List.length_take]; omega)
  have h3 : (256 : Nat) ^ 4 = 4294967296 := by decide
  omega
set_option maxRecDepth 100000 in
set_option maxHeartbeats 4000000 in
theorem fRead_c {l : List UInt8} (hm : l.length ≤ 1000000) (w : World) : Calls Tryz.prog 40 #[.string ⟨l.toArray⟩] w fun e_ w' => e_ = .returned (.tuple #[.agg #[.string ⟨(rdP l).toArray⟩, .int .u64 (rdE l : Int), .int .u64 (rdN l : Int)], .bool (decide (isCell l))]) ∧ Adds w w' := by
  have K : Keeps (fun _ => False) w w := Keeps.refl _ w
  refine Calls.start Tryz.func40 rfl (by kernel_rfl) ?_
  refine WC.seq ?_
  refine WC.region ?_
  refine WL.new (d := 2) (T := 72) #[.string ⟨#[]⟩, .int .u64 0, .int .u64 0] (k := fun b1 w2 g3 hb4 k5 => ?_)
  have z6 := Nat.le_trans K.size g3
  replace K := K.trans (k5.any _)
  refine WL.op (d := 3) (.bool false) (k := ?_)
  refine WL.nil ?_
  refine WX.seqN ?_
  refine WC.seq ?_
  refine WC.region ?_
  refine WL.op (d := 12) (.string ⟨(l).toArray⟩) (k := ?_)
  refine WL.callG (d := 13) (f := 52) (args := #[.string ⟨(l).toArray⟩]) (fTag_c (l := l) (by show List.length l ≤ _; first | omega | (simp; done) | (simp; omega)) w2) (k := fun e_ w9 h_ => ⟨.tuple #[.int .u64 ((tgE l : Nat) : Int), .int .u64 ((tgN l : Nat) : Int), .bool (decide (List.length l = 64))], h_.1, ?_⟩)
  have k10 := h_.2; clear h_
  replace hb4 := k10.heap hb4 id
  replace K := K.trans (k10.any _)
  have te7 := tgE_lt l
  have te8 := tgN_lt l
  refine WL.op (d := 11) (.tuple #[.int .u64 ((tgE l : Nat) : Int), .int .u64 ((tgN l : Nat) : Int), .bool (decide (List.length l = 64))]) (k := ?_)
  refine WL.op (d := 14) (.int .u64 ((tgE l : Nat) : Int)) (k := ?_)
  refine WL.op (d := 15) (.int .u64 ((tgN l : Nat) : Int)) (k := ?_)
  refine WL.op (d := 16) (.bool (decide (List.length l = 64))) (k := ?_)
  refine WL.op (d := 4) (.int .u64 ((tgE l : Nat) : Int)) (k := ?_)
  refine WL.op (d := 5) (.int .u64 ((tgN l : Nat) : Int)) (k := ?_)
  refine WL.op (d := 6) (.bool (decide (List.length l = 64))) (k := ?_)
  refine WL.nil ?_
  refine WX.seqN ?_
  refine WC.seq ?_
  refine WC.seq ?_
  refine WC.region ?_
  refine WL.op (d := 17) (.bool (decide (List.length l = 64))) (k := ?_)
  refine WL.op (d := 18) (.bool (!(decide (List.length l = 64)))) (k := ?_)
  refine WL.op (d := 19) (.bool (!(decide (List.length l = 64)))) (k := ?_)
  refine bsplit (!(decide (List.length l = 64))) (fun h11 => ?_) (fun h11 => ?_)
  · have h12 : (decide (List.length l = 64)) = false := Bool.not_inj (y := false) h11
    have ph12 := of_decide_eq_false h12
    refine WL.rw (t := 19) (v := .bool true) (congrArg Value.bool h11) (k := ?_)
    refine WL.skip (d := 20) (k := ?_)
    refine WL.skip (d := 21) (k := ?_)
    refine WL.skip (d := 22) (k := ?_)
    refine WL.op (d := 23) (.bool true) (k := ?_)
    refine WL.nil ?_
    refine WX.seqN ?_
    refine WC.condT (k := ?_)
    refine WC.seq ?_
    refine WC.region ?_
    refine WL.op (d := 24) (.agg #[.string ⟨#[]⟩, .int .u64 0, .int .u64 0]) (k := ?_)
    refine WL.store (v := .agg #[.string ⟨#[]⟩, .int .u64 0, .int .u64 0]) (i := 0) (cs' := #[.string ⟨#[]⟩, .int .u64 0, .int .u64 0]) hb4 (k := fun w13 hb14 k15 => ?_)
    replace K := K.trans' k15 (fun i hi e => absurd (e ▸ hi) (Nat.not_lt.2 z6))
    clear hb4
    refine WL.op (d := 3) (.bool false) (k := ?_)
    refine WL.nil ?_
    refine WX.seqN ?_
    refine WC.ret ?_
    refine WX.seqR ?_
    refine WX.ret (rs := [.cell 2 72, .tmp 3]) [.agg #[.string ⟨#[]⟩, .int .u64 0, .int .u64 0], .bool false] (.tuple #[.agg #[.string ⟨#[]⟩, .int .u64 0, .int .u64 0], .bool false]) ⟨⟨_, (by kernel_rfl), ldN (T := 72) (i := 0) (m := 3) (l := [.string ⟨#[]⟩, .int .u64 0, .int .u64 0]) hb14⟩, (by kernel_rfl), trivial⟩ (k := ?_)
    obtain ⟨e1_, e2_, e3_⟩ := rd_no (l := l) (no_len (fun h => ph12 (by omega)))
    exact ⟨by rw [e1_, e2_, e3_, decide_eq_false (no_len (fun h => ph12 (by omega)))]; rfl, K⟩
  · have h16 : (decide (List.length l = 64)) = true := Bool.not_inj (y := true) h11
    have ph16 := of_decide_eq_true h16
    refine WL.rw (t := 19) (v := .bool false) (congrArg Value.bool h11) (k := ?_)
    refine WL.op (d := 20) (.string ⟨(l).toArray⟩) (k := ?_)
    refine WL.strAt (T := 9) (l := l) (i := 0) (kk := .i64) (d := 21) (by omega) (by first | omega | (simp; omega)) (by kernel_rfl) (by kernel_rfl) (by kernel_rfl) (by kernel_rfl) (by kernel_rfl) ?_
    have ub17 := u8_lt (List.getD l (0 : Int).toNat 0)
    refine WL.op (d := 22) (.bool (decide (((List.getD l (0 : Int).toNat 0).toNat : Int) > 43))) (k := ?_)
    refine WL.op (d := 23) (.bool (decide (((List.getD l (0 : Int).toNat 0).toNat : Int) > 43))) (k := ?_)
    refine WL.nil ?_
    refine WX.seqN ?_
    refine WC.cond (b := decide (((List.getD l (0 : Int).toNat 0).toNat : Int) > 43)) (ht := fun h18 => ?_) (hf := fun h18 => ?_)
    · have ph18 := of_decide_eq_true h18
      refine WC.seq ?_
      refine WC.region ?_
      refine WL.op (d := 24) (.agg #[.string ⟨#[]⟩, .int .u64 0, .int .u64 0]) (k := ?_)
      refine WL.store (v := .agg #[.string ⟨#[]⟩, .int .u64 0, .int .u64 0]) (i := 0) (cs' := #[.string ⟨#[]⟩, .int .u64 0, .int .u64 0]) hb4 (k := fun w19 hb20 k21 => ?_)
      replace K := K.trans' k21 (fun i hi e => absurd (e ▸ hi) (Nat.not_lt.2 z6))
      clear hb4
      refine WL.op (d := 3) (.bool false) (k := ?_)
      refine WL.nil ?_
      refine WX.seqN ?_
      refine WC.ret ?_
      refine WX.seqR ?_
      refine WX.ret (rs := [.cell 2 72, .tmp 3]) [.agg #[.string ⟨#[]⟩, .int .u64 0, .int .u64 0], .bool false] (.tuple #[.agg #[.string ⟨#[]⟩, .int .u64 0, .int .u64 0], .bool false]) ⟨⟨_, (by kernel_rfl), ldN (T := 72) (i := 0) (m := 3) (l := [.string ⟨#[]⟩, .int .u64 0, .int .u64 0]) hb20⟩, (by kernel_rfl), trivial⟩ (k := ?_)
      obtain ⟨e1_, e2_, e3_⟩ := rd_no (l := l) (no_head ph18)
      exact ⟨by rw [e1_, e2_, e3_, decide_eq_false (no_head ph18)]; rfl, K⟩
    · have ph18 := of_decide_eq_false h18
      refine WC.skip ?_
      refine WX.seqN ?_
      refine WC.seq ?_
      refine WC.region ?_
      refine WL.op (d := 25) (.string ⟨(l).toArray⟩) (k := ?_)
      refine WL.strAt (T := 9) (l := l) (i := 0) (kk := .i64) (d := 26) (by omega) (by first | omega | (simp; omega)) (by kernel_rfl) (by kernel_rfl) (by kernel_rfl) (by kernel_rfl) (by kernel_rfl) ?_
      have ub22 := u8_lt (List.getD l (0 : Int).toNat 0)
      refine WL.opE (d := 27) (.int .i64 (IntKind.i64.wrap ((List.getD l (0 : Int).toNat 0).toNat : Int))) (v := .int .i64 ((List.getD l (0 : Int).toNat 0).toNat : Int)) (congrArg (Value.int .i64) (IntWalk.i64_in _ (by omega))) (k := ?_)
      refine WL.opE (d := 28) (.int .i64 (IntKind.i64.wrap (5 + ((List.getD l (0 : Int).toNat 0).toNat : Int)))) (v := .int .i64 (5 + ((List.getD l (0 : Int).toNat 0).toNat : Int))) (congrArg (Value.int .i64) (IntWalk.i64_in _ (by omega))) (k := ?_)
      refine WL.op (d := 7) (.int .i64 (5 + ((List.getD l (0 : Int).toNat 0).toNat : Int))) (k := ?_)
      refine WL.nil ?_
      refine WX.seqN ?_
      refine WC.seq ?_
      refine WC.region ?_
      refine WL.op (d := 29) (.string ⟨(l).toArray⟩) (k := ?_)
      refine WL.op (d := 30) (.int .i64 (5 + ((List.getD l (0 : Int).toNat 0).toNat : Int))) (k := ?_)
      refine WL.cut (d := 31) (vx := .string ⟨(l).toArray⟩) (lo' := (some (.int .i64 5))) (hi' := (some (.int .i64 (5 + ((List.getD l (0 : Int).toNat 0).toNat : Int))))) (mx' := none) (v := .string ⟨(List.drop 5 (List.take ((5 + ((List.getD l (0 : Int).toNat 0).toNat : Int)).toNat) l)).toArray⟩) (run_cut (P := Tryz.prog) (w := w9) (lo := (some (.int .i64 5))) (hi := (some (.int .i64 (5 + ((List.getD l (0 : Int).toNat 0).toNat : Int))))) (T := 9) (a := 5) (b := (5 + ((List.getD l (0 : Int).toNat 0).toNat : Int)).toNat) (l := l) (by kernel_rfl) (.inr ⟨_, _, rfl, by omega⟩) (.inr ⟨_, _, rfl, by omega⟩) (by first | omega | (simp; omega)) (by first | omega | (simp; omega))) (k := ?_)
      have pl23 := payS_len l
      refine WL.rw (t := 31) (v := .string ⟨(payS l).toArray⟩) (congrArg (fun l : List UInt8 => Value.string ⟨l.toArray⟩) (pay_cut l)) (k := ?_)
      refine WL.op (d := 32) (.int .u64 ((tgE l : Nat) : Int)) (k := ?_)
      refine WL.op (d := 33) (.int .u64 ((tgN l : Nat) : Int)) (k := ?_)
      refine WL.op (d := 34) (.agg #[.string ⟨(payS l).toArray⟩, .int .u64 ((tgE l : Nat) : Int), .int .u64 ((tgN l : Nat) : Int)]) (k := ?_)
      refine WL.new (d := 8) (T := 72) #[.string ⟨#[]⟩, .int .u64 0, .int .u64 0] (k := fun b24 w25 g26 hb27 k28 => ?_)
      have z29 := Nat.le_trans K.size g26
      have n30 : b1 ≠ b24 := Nat.ne_of_lt (Nat.lt_of_lt_of_le (lt_of_heap hb4) g26)
      replace hb4 := k28.heap hb4 id
      replace K := K.trans (k28.any _)
      refine WL.store (v := .agg #[.string ⟨(payS l).toArray⟩, .int .u64 ((tgE l : Nat) : Int), .int .u64 ((tgN l : Nat) : Int)]) (i := 0) (cs' := #[.string ⟨(payS l).toArray⟩, .int .u64 ((tgE l : Nat) : Int), .int .u64 ((tgN l : Nat) : Int)]) hb27 (k := fun w31 hb32 k33 => ?_)
      replace hb4 := k33.heap hb4 n30
      replace K := K.trans' k33 (fun i hi e => absurd (e ▸ hi) (Nat.not_lt.2 z29))
      clear hb27
      refine WL.nil ?_
      refine WX.seqN ?_
      refine WC.seq ?_
      refine WC.region ?_
      refine WL.op (d := 36) (.string ⟨(l).toArray⟩) (k := ?_)
      refine WL.cut (d := 37) (vx := .string ⟨(l).toArray⟩) (lo' := (some (.int .i64 1))) (hi' := none) (mx' := none) (v := .string ⟨(List.drop 1 l).toArray⟩) ((by have h_ := run_cut (P := Tryz.prog) (w := w31) (lo := (some (.int .i64 1))) (hi := none) (T := 9) (a := 1) (b := l.length) (l := l) (by kernel_rfl) (.inr ⟨_, _, rfl, by omega⟩) (.inl ⟨rfl, rfl⟩) (by first | omega | (simp; omega)) (by first | omega | (simp; omega)); rw [List.take_length] at h_; exact h_)) (k := ?_)
      refine WL.callG (d := 38) (f := 53) (args := #[.string ⟨(List.drop 1 l).toArray⟩]) (cRead_c (l := List.drop 1 l) (by simp; omega) (by simp; omega) w31) (k := fun e_ w35 h_ => ⟨.tuple #[.int .u32 ((beval (List.take 4 (List.drop 1 l)) : Nat) : Int), .bool true], h_.1, ?_⟩)
      have k36 := h_.2; clear h_
      replace hb4 := k36.heap hb4 id
      replace hb32 := k36.heap hb32 id
      replace K := K.trans (k36.any _)
      have bl34 := beval_lt32 (List.drop 1 l)
      refine WL.op (d := 35) (.tuple #[.int .u32 ((beval (List.take 4 (List.drop 1 l)) : Nat) : Int), .bool true]) (k := ?_)
      refine WL.op (d := 39) (.int .u32 ((beval (List.take 4 (List.drop 1 l)) : Nat) : Int)) (k := ?_)
      refine WL.op (d := 40) (.bool true) (k := ?_)
      refine WL.op (d := 9) (.int .u32 ((beval (List.take 4 (List.drop 1 l)) : Nat) : Int)) (k := ?_)
      refine WL.op (d := 10) (.bool true) (k := ?_)
      refine WL.nil ?_
      refine WX.seqN ?_
      refine WC.seq ?_
      refine WC.seq ?_
      refine WC.mixed (fun _ => False) 16 (k := fun w37 k38 => ?_)
      replace hb4 := k38.heap hb4 id
      replace hb32 := k38.heap hb32 id
      replace K := K.trans (k38.any _)
      have KC := Keeps.refl (fun _ => False) w37
      have bh39 := hb4
      have bh40 := hb32
      have Kb := K
      refine WA.quiet2 1 (d := 42) (.pointer (some ⟨b24, 0, none⟩)) KC (hi := rfl) (k := ?_)
      refine WA.quietR2 2 (d := 43) (.string ⟨(payS l).toArray⟩) KC (exec_load (fun w_ k_ => ld1 (T := 9) (i := 0) (k_.heap bh40 id))) (hi := rfl) (k := ?_)
      refine WA.quiet2 3 (d := 44) (.string ⟨(l).toArray⟩) KC (hi := rfl) (k := ?_)
      refine WA.quietR2 4 (d := 45) (.string ⟨(List.drop 48 l).toArray⟩) KC (exec_cut (vx := .string ⟨(l).toArray⟩) (lo' := (some (.int .i64 48))) (hi' := none) (mx' := none) (fun w_ => (by have h_ := run_cut (P := Tryz.prog) (w := w_) (lo := (some (.int .i64 48))) (hi := none) (T := 9) (a := 48) (b := l.length) (l := l) (by kernel_rfl) (.inr ⟨_, _, rfl, by omega⟩) (.inl ⟨rfl, rfl⟩) (by first | omega | (simp; omega)) (by first | omega | (simp; omega)); rw [List.take_length] at h_; exact h_))) (hi := rfl) (k := ?_)
      refine WA.quietR2 5 (d := 46) (.string ⟨((payS l) ++ (List.drop 48 l)).toArray⟩) KC (exec_bin (fun _ => cat_run (by (try simp only [List.length_append, List.length_drop]); omega))) (hi := rfl) (k := ?_)
      refine WA.quiet2 6 (d := 47) (.int .u32 ((beval (List.take 4 (List.drop 1 l)) : Nat) : Int)) KC (hi := rfl) (k := ?_)
      refine WA.step 0 (hi := rfl) (k := ?_)
      refine WL.callG (d := 41) (f := 54) (args := #[]) (cNew_c w37) (k := fun e_ w41 h_ => ?_)
      obtain ⟨b42, g43, rfl, ht44, k45⟩ := h_
      refine ⟨_, rfl, ?_⟩
      have z46 := Nat.le_trans K.size g43
      have zc47 := Nat.le_trans KC.size g43
      have n48 : b1 ≠ b42 := Nat.ne_of_lt (Nat.lt_of_lt_of_le (lt_of_heap hb4) g43)
      have n49 : b24 ≠ b42 := Nat.ne_of_lt (Nat.lt_of_lt_of_le (lt_of_heap hb32) g43)
      replace hb4 := k45.heap hb4 id
      replace hb32 := k45.heap hb32 id
      replace K := K.trans (k45.any _)
      replace KC := KC.trans (k45.any _)
      refine WL.nil ?_
      refine WX.nxt KC ?_
      refine WA.step 7 (hi := rfl) (k := ?_)
      refine WL.callG (d := 48) (f := 55) (args := #[.pointer (some ⟨b42, 0, none⟩), .string ⟨((payS l) ++ (List.drop 48 l)).toArray⟩, .int .u32 ((beval (List.take 4 (List.drop 1 l)) : Nat) : Int)]) (cRight_c (l := (payS l) ++ (List.drop 48 l)) ht44 (by show List.length ((payS l) ++ (List.drop 48 l)) ≤ _; first | omega | (simp; done) | (simp; omega))) (k := fun e_ w50 h_ => ?_)
      obtain ⟨rfl, k51⟩ := h_
      refine ⟨_, rfl, ?_⟩
      replace hb4 := k51.heap hb4 n48
      replace hb32 := k51.heap hb32 n49
      replace K := K.trans' k51 (fun i hi e => absurd (e ▸ hi) (Nat.not_lt.2 z46))
      replace KC := KC.trans' k51 (fun i hi e => absurd (e ▸ hi) (Nat.not_lt.2 zc47))
      clear ht44
      have cl52 := crc_lt ((payS l) ++ (List.drop 48 l))
      refine WL.nil ?_
      refine WX.nxt KC ?_
      refine WA.quiet2 8 (d := 49) (.bool (!(((crc ((payS l) ++ (List.drop 48 l)) : Nat) : Int) == ((beval (List.take 4 (List.drop 1 l)) : Nat) : Int)))) KC (hi := rfl) (k := ?_)
      refine WA.quiet2 9 (d := 50) (.bool (!(((crc ((payS l) ++ (List.drop 48 l)) : Nat) : Int) == ((beval (List.take 4 (List.drop 1 l)) : Nat) : Int)))) KC (hi := rfl) (k := ?_)
      refine bsplit (!(((crc ((payS l) ++ (List.drop 48 l)) : Nat) : Int) == ((beval (List.take 4 (List.drop 1 l)) : Nat) : Int))) (fun h53 => ?_) (fun h53 => ?_)
      · have h54 : (((crc ((payS l) ++ (List.drop 48 l)) : Nat) : Int) == ((beval (List.take 4 (List.drop 1 l)) : Nat) : Int)) = false := Bool.not_inj (y := false) h53
        have ph54 := ne_of_beq_false h54
        refine WA.rw (t := 50) (v := .bool true) (congrArg Value.bool h53) (k := ?_)
        refine WA.quietS2 10 (d := 51) KC (hi := rfl) (k := ?_)
        refine WA.quietS2 11 (d := 52) KC (hi := rfl) (k := ?_)
        refine WA.quietS2 12 (d := 53) KC (hi := rfl) (k := ?_)
        refine WA.step 13 (hi := rfl) (k := ?_)
        refine WL.skip (d := 54) (k := ?_)
        refine WL.nil ?_
        refine WX.nxt KC ?_
        refine WA.quietS2 14 (d := 55) KC (hi := rfl) (k := ?_)
        refine WA.quiet2 15 (d := 56) (.bool true) KC (hi := rfl) (k := ?_)
        refine WA.done (k := ?_)
        clear KC
        refine WX.seqN ?_
        refine WC.condT (k := ?_)
        refine WC.seq ?_
        refine WC.region ?_
        refine WL.op (d := 57) (.agg #[.string ⟨#[]⟩, .int .u64 0, .int .u64 0]) (k := ?_)
        refine WL.store (v := .agg #[.string ⟨#[]⟩, .int .u64 0, .int .u64 0]) (i := 0) (cs' := #[.string ⟨#[]⟩, .int .u64 0, .int .u64 0]) hb4 (k := fun w55 hb56 k57 => ?_)
        replace hb32 := k57.heap hb32 (Ne.symm n30)
        replace K := K.trans' k57 (fun i hi e => absurd (e ▸ hi) (Nat.not_lt.2 z6))
        clear hb4
        refine WL.op (d := 3) (.bool false) (k := ?_)
        refine WL.nil ?_
        refine WX.seqN ?_
        refine WC.ret ?_
        refine WX.seqR ?_
        refine WX.ret (rs := [.cell 2 72, .tmp 3]) [.agg #[.string ⟨#[]⟩, .int .u64 0, .int .u64 0], .bool false] (.tuple #[.agg #[.string ⟨#[]⟩, .int .u64 0, .int .u64 0], .bool false]) ⟨⟨_, (by kernel_rfl), ldN (T := 72) (i := 0) (m := 3) (l := [.string ⟨#[]⟩, .int .u64 0, .int .u64 0]) hb56⟩, (by kernel_rfl), trivial⟩ (k := ?_)
        obtain ⟨e1_, e2_, e3_⟩ := rd_no (l := l) (no_sum (by omega) ph18 ph54)
        exact ⟨by rw [e1_, e2_, e3_, decide_eq_false (no_sum (by omega) ph18 ph54)]; rfl, K⟩
      · have h58 : (((crc ((payS l) ++ (List.drop 48 l)) : Nat) : Int) == ((beval (List.take 4 (List.drop 1 l)) : Nat) : Int)) = true := Bool.not_inj (y := true) h53
        have ph58 := eq_of_beq h58
        refine WA.rw (t := 50) (v := .bool false) (congrArg Value.bool h53) (k := ?_)
        refine WA.quiet2 10 (d := 51) (.string ⟨(l).toArray⟩) KC (hi := rfl) (k := ?_)
        refine WA.quiet2 11 (d := 52) (.int .i64 (5 + ((List.getD l (0 : Int).toNat 0).toNat : Int))) KC (hi := rfl) (k := ?_)
        refine WA.quietR2 12 (d := 53) (.string ⟨(List.drop ((5 + ((List.getD l (0 : Int).toNat 0).toNat : Int)).toNat) (List.take 48 l)).toArray⟩) KC (exec_cut (vx := .string ⟨(l).toArray⟩) (lo' := (some (.int .i64 (5 + ((List.getD l (0 : Int).toNat 0).toNat : Int))))) (hi' := (some (.int .i64 48))) (mx' := none) (fun w_ => run_cut (P := Tryz.prog) (w := w_) (lo := (some (.int .i64 (5 + ((List.getD l (0 : Int).toNat 0).toNat : Int))))) (hi := (some (.int .i64 48))) (T := 9) (a := (5 + ((List.getD l (0 : Int).toNat 0).toNat : Int)).toNat) (b := 48) (l := l) (by kernel_rfl) (.inr ⟨_, _, rfl, by omega⟩) (.inr ⟨_, _, rfl, by omega⟩) (by first | omega | (simp; omega)) (by first | omega | (simp; omega)))) (hi := rfl) (k := ?_)
        refine WA.step 13 (hi := rfl) (k := ?_)
        refine WL.callG (d := 54) (f := 56) (args := #[.string ⟨(List.drop ((5 + ((List.getD l (0 : Int).toNat 0).toNat : Int)).toNat) (List.take 48 l)).toArray⟩, .string ⟨#[0]⟩]) (trim0_c (l := List.drop ((5 + ((List.getD l (0 : Int).toNat 0).toNat : Int)).toNat) (List.take 48 l)) (by show List.length (List.drop ((5 + ((List.getD l (0 : Int).toNat 0).toNat : Int)).toNat) (List.take 48 l)) ≤ _; first | omega | (simp; done) | (simp; omega)) w50) (k := fun e_ w59 h_ => ?_)
        obtain ⟨r60, rfl, hr61, k62⟩ := h_
        refine ⟨_, rfl, ?_⟩
        replace hb4 := k62.heap hb4 id
        replace hb32 := k62.heap hb32 id
        replace K := K.trans (k62.any _)
        replace KC := KC.trans (k62.any _)
        refine WL.nil ?_
        refine WX.nxt KC ?_
        refine WA.quiet2 14 (d := 55) (.bool !(ByteArray.toList ⟨(r60).toArray⟩ == ByteArray.toList ⟨([]).toArray⟩)) KC (hi := rfl) (k := ?_)
        refine WA.rw (t := 55) (v := .bool (!(decide (r60 = [])))) (str_neq _ _) (k := ?_)
        refine WA.quiet2 15 (d := 56) (.bool (!(decide (r60 = [])))) KC (hi := rfl) (k := ?_)
        refine WA.done (k := ?_)
        clear KC
        refine WX.seqN ?_
        refine WC.cond (b := !(decide (r60 = []))) (ht := fun h63 => ?_) (hf := fun h63 => ?_)
        · have h64 : (decide (r60 = [])) = false := Bool.not_inj (y := false) h63
          have ph64 := of_decide_eq_false h64
          refine WC.seq ?_
          refine WC.region ?_
          refine WL.op (d := 57) (.agg #[.string ⟨#[]⟩, .int .u64 0, .int .u64 0]) (k := ?_)
          refine WL.store (v := .agg #[.string ⟨#[]⟩, .int .u64 0, .int .u64 0]) (i := 0) (cs' := #[.string ⟨#[]⟩, .int .u64 0, .int .u64 0]) hb4 (k := fun w65 hb66 k67 => ?_)
          replace hb32 := k67.heap hb32 (Ne.symm n30)
          replace K := K.trans' k67 (fun i hi e => absurd (e ▸ hi) (Nat.not_lt.2 z6))
          clear hb4
          refine WL.op (d := 3) (.bool false) (k := ?_)
          refine WL.nil ?_
          refine WX.seqN ?_
          refine WC.ret ?_
          refine WX.seqR ?_
          refine WX.ret (rs := [.cell 2 72, .tmp 3]) [.agg #[.string ⟨#[]⟩, .int .u64 0, .int .u64 0], .bool false] (.tuple #[.agg #[.string ⟨#[]⟩, .int .u64 0, .int .u64 0], .bool false]) ⟨⟨_, (by kernel_rfl), ldN (T := 72) (i := 0) (m := 3) (l := [.string ⟨#[]⟩, .int .u64 0, .int .u64 0]) hb66⟩, (by kernel_rfl), trivial⟩ (k := ?_)
          obtain ⟨e1_, e2_, e3_⟩ := rd_no (l := l) (no_zero (by omega) ph18 hr61 ph64)
          exact ⟨by rw [e1_, e2_, e3_, decide_eq_false (no_zero (by omega) ph18 hr61 ph64)]; rfl, K⟩
        · have h68 : (decide (r60 = [])) = true := Bool.not_inj (y := true) h63
          have ph68 := of_decide_eq_true h68
          refine WC.skip ?_
          refine WX.seqN ?_
          refine WC.seq ?_
          refine WC.region ?_
          refine WL.load (v := .agg #[.string ⟨(payS l).toArray⟩, .int .u64 ((tgE l : Nat) : Int), .int .u64 ((tgN l : Nat) : Int)]) (ldN (T := 72) (i := 0) (m := 3) (l := [.string ⟨(payS l).toArray⟩, .int .u64 ((tgE l : Nat) : Int), .int .u64 ((tgN l : Nat) : Int)]) hb32) (k := ?_)
          refine WL.store (v := .agg #[.string ⟨(payS l).toArray⟩, .int .u64 ((tgE l : Nat) : Int), .int .u64 ((tgN l : Nat) : Int)]) (i := 0) (cs' := #[.string ⟨(payS l).toArray⟩, .int .u64 ((tgE l : Nat) : Int), .int .u64 ((tgN l : Nat) : Int)]) hb4 (k := fun w69 hb70 k71 => ?_)
          replace hb32 := k71.heap hb32 (Ne.symm n30)
          replace K := K.trans' k71 (fun i hi e => absurd (e ▸ hi) (Nat.not_lt.2 z6))
          clear hb4
          refine WL.op (d := 3) (.bool true) (k := ?_)
          refine WL.nil ?_
          refine WX.seqN ?_
          refine WC.ret ?_
          refine WX.ret (rs := [.cell 2 72, .tmp 3]) [.agg #[.string ⟨(payS l).toArray⟩, .int .u64 ((tgE l : Nat) : Int), .int .u64 ((tgN l : Nat) : Int)], .bool true] (.tuple #[.agg #[.string ⟨(payS l).toArray⟩, .int .u64 ((tgE l : Nat) : Int), .int .u64 ((tgN l : Nat) : Int)], .bool true]) ⟨⟨_, (by kernel_rfl), ldN (T := 72) (i := 0) (m := 3) (l := [.string ⟨(payS l).toArray⟩, .int .u64 ((tgE l : Nat) : Int), .int .u64 ((tgN l : Nat) : Int)]) hb70⟩, (by kernel_rfl), trivial⟩ (k := ?_)
          obtain ⟨e1_, e2_, e3_⟩ := rd_yes (yes_ (by omega) ph18 ph58 hr61 ph68)
          exact ⟨by rw [e1_, e2_, e3_, decide_eq_true (yes_ (by omega) ph18 ph58 hr61 ph68)], K⟩
set_option maxRecDepth 100000 in
set_option maxHeartbeats 4000000 in
theorem u04Read_c {l : List UInt8} (hm : l.length ≤ 1000000) (w : World) : Calls Tryz.prog 32 #[.string ⟨l.toArray⟩] w fun e_ w' => e_ = .returned (.tuple #[.agg #[.string ⟨(rdP l).toArray⟩, .int .u64 (rdE l : Int), .int .u64 (rdN l : Int)], .bool (decide (isCell l))]) ∧ Adds w w' := by
  have K : Keeps (fun _ => False) w w := Keeps.refl _ w
  refine Calls.start Tryz.func32 rfl (by kernel_rfl) ?_
  refine WC.seq ?_
  refine WC.region ?_
  refine WL.new (d := 2) (T := 72) #[.string ⟨#[]⟩, .int .u64 0, .int .u64 0] (k := fun b1 w2 g3 hb4 k5 => ?_)
  have z6 := Nat.le_trans K.size g3
  replace K := K.trans (k5.any _)
  refine WL.op (d := 3) (.bool false) (k := ?_)
  refine WL.nil ?_
  refine WX.seqN ?_
  refine WC.seq ?_
  refine WC.seq ?_
  refine WC.region ?_
  refine WL.op (d := 8) (.string ⟨(l).toArray⟩) (k := ?_)
  refine WL.op (d := 9) (.int .i64 (l.length : Int)) (k := ?_)
  refine WL.op (d := 10) (.bool ((l.length : Int) != 64)) (k := ?_)
  refine WL.op (d := 11) (.bool ((l.length : Int) != 64)) (k := ?_)
  refine bsplit ((l.length : Int) != 64) (fun h7 => ?_) (fun h7 => ?_)
  · have ph7 := bne_iff_ne.1 h7
    refine WL.rw (t := 11) (v := .bool true) (congrArg Value.bool h7) (k := ?_)
    refine WL.skip (d := 12) (k := ?_)
    refine WL.skip (d := 13) (k := ?_)
    refine WL.skip (d := 14) (k := ?_)
    refine WL.op (d := 15) (.bool true) (k := ?_)
    refine WL.nil ?_
    refine WX.seqN ?_
    refine WC.condT (k := ?_)
    refine WC.seq ?_
    refine WC.region ?_
    refine WL.op (d := 16) (.agg #[.string ⟨#[]⟩, .int .u64 0, .int .u64 0]) (k := ?_)
    refine WL.store (v := .agg #[.string ⟨#[]⟩, .int .u64 0, .int .u64 0]) (i := 0) (cs' := #[.string ⟨#[]⟩, .int .u64 0, .int .u64 0]) hb4 (k := fun w8 hb9 k10 => ?_)
    replace K := K.trans' k10 (fun i hi e => absurd (e ▸ hi) (Nat.not_lt.2 z6))
    clear hb4
    refine WL.op (d := 3) (.bool false) (k := ?_)
    refine WL.nil ?_
    refine WX.seqN ?_
    refine WC.ret ?_
    refine WX.seqR ?_
    refine WX.ret (rs := [.cell 2 72, .tmp 3]) [.agg #[.string ⟨#[]⟩, .int .u64 0, .int .u64 0], .bool false] (.tuple #[.agg #[.string ⟨#[]⟩, .int .u64 0, .int .u64 0], .bool false]) ⟨⟨_, (by kernel_rfl), ldN (T := 72) (i := 0) (m := 3) (l := [.string ⟨#[]⟩, .int .u64 0, .int .u64 0]) hb9⟩, (by kernel_rfl), trivial⟩ (k := ?_)
    obtain ⟨e1_, e2_, e3_⟩ := rd_no (l := l) (no_len (fun h => ph7 (by omega)))
    exact ⟨by rw [e1_, e2_, e3_, decide_eq_false (no_len (fun h => ph7 (by omega)))]; rfl, K⟩
  · have ph7 := of_bne_false h7
    refine WL.rw (t := 11) (v := .bool false) (congrArg Value.bool h7) (k := ?_)
    refine WL.op (d := 12) (.string ⟨(l).toArray⟩) (k := ?_)
    refine WL.strAt (T := 9) (l := l) (i := 0) (kk := .i64) (d := 13) (by omega) (by first | omega | (simp; omega)) (by kernel_rfl) (by kernel_rfl) (by kernel_rfl) (by kernel_rfl) (by kernel_rfl) ?_
    have ub11 := u8_lt (List.getD l (0 : Int).toNat 0)
    refine WL.op (d := 14) (.bool (decide (((List.getD l (0 : Int).toNat 0).toNat : Int) > 43))) (k := ?_)
    refine WL.op (d := 15) (.bool (decide (((List.getD l (0 : Int).toNat 0).toNat : Int) > 43))) (k := ?_)
    refine WL.nil ?_
    refine WX.seqN ?_
    refine WC.cond (b := decide (((List.getD l (0 : Int).toNat 0).toNat : Int) > 43)) (ht := fun h12 => ?_) (hf := fun h12 => ?_)
    · have ph12 := of_decide_eq_true h12
      refine WC.seq ?_
      refine WC.region ?_
      refine WL.op (d := 16) (.agg #[.string ⟨#[]⟩, .int .u64 0, .int .u64 0]) (k := ?_)
      refine WL.store (v := .agg #[.string ⟨#[]⟩, .int .u64 0, .int .u64 0]) (i := 0) (cs' := #[.string ⟨#[]⟩, .int .u64 0, .int .u64 0]) hb4 (k := fun w13 hb14 k15 => ?_)
      replace K := K.trans' k15 (fun i hi e => absurd (e ▸ hi) (Nat.not_lt.2 z6))
      clear hb4
      refine WL.op (d := 3) (.bool false) (k := ?_)
      refine WL.nil ?_
      refine WX.seqN ?_
      refine WC.ret ?_
      refine WX.seqR ?_
      refine WX.ret (rs := [.cell 2 72, .tmp 3]) [.agg #[.string ⟨#[]⟩, .int .u64 0, .int .u64 0], .bool false] (.tuple #[.agg #[.string ⟨#[]⟩, .int .u64 0, .int .u64 0], .bool false]) ⟨⟨_, (by kernel_rfl), ldN (T := 72) (i := 0) (m := 3) (l := [.string ⟨#[]⟩, .int .u64 0, .int .u64 0]) hb14⟩, (by kernel_rfl), trivial⟩ (k := ?_)
      obtain ⟨e1_, e2_, e3_⟩ := rd_no (l := l) (no_head ph12)
      exact ⟨by rw [e1_, e2_, e3_, decide_eq_false (no_head ph12)]; rfl, K⟩
    · have ph12 := of_decide_eq_false h12
      refine WC.skip ?_
      refine WX.seqN ?_
      refine WC.seq ?_
      refine WC.region ?_
      refine WL.op (d := 17) (.string ⟨(l).toArray⟩) (k := ?_)
      refine WL.callG (d := 18) (f := 42) (args := #[.string ⟨(l).toArray⟩]) (u04Tag_c (l := l) (by show List.length l ≤ _; first | omega | (simp; done) | (simp; omega)) w2) (k := fun e_ w18 h_ => ⟨.agg #[.int .u64 ((tgE l : Nat) : Int), .int .u64 ((tgN l : Nat) : Int), .bool (decide (List.length l = 64))], h_.1, ?_⟩)
      have k19 := h_.2; clear h_
      replace hb4 := k19.heap hb4 id
      replace K := K.trans (k19.any _)
      have te16 := tgE_lt l
      have te17 := tgN_lt l
      refine WL.new (d := 4) (T := 89) #[.int .u64 0, .int .u64 0, .bool false] (k := fun b20 w21 g22 hb23 k24 => ?_)
      have z25 := Nat.le_trans K.size g22
      have n26 : b1 ≠ b20 := Nat.ne_of_lt (Nat.lt_of_lt_of_le (lt_of_heap hb4) g22)
      replace hb4 := k24.heap hb4 id
      replace K := K.trans (k24.any _)
      refine WL.store (v := .agg #[.int .u64 ((tgE l : Nat) : Int), .int .u64 ((tgN l : Nat) : Int), .bool (decide (List.length l = 64))]) (i := 0) (cs' := #[.int .u64 ((tgE l : Nat) : Int), .int .u64 ((tgN l : Nat) : Int), .bool (decide (List.length l = 64))]) hb23 (k := fun w27 hb28 k29 => ?_)
      replace hb4 := k29.heap hb4 n26
      replace K := K.trans' k29 (fun i hi e => absurd (e ▸ hi) (Nat.not_lt.2 z25))
      clear hb23
      refine WL.nil ?_
      refine WX.seqN ?_
      refine WC.seq ?_
      refine WC.mixed (fun _ => False) 12 (k := fun w30 k31 => ?_)
      replace hb4 := k31.heap hb4 id
      replace hb28 := k31.heap hb28 id
      replace K := K.trans (k31.any _)
      have KC := Keeps.refl (fun _ => False) w30
      have bh32 := hb4
      have bh33 := hb28
      have Kb := K
      refine WA.quiet 0 (d := 19) (.string ⟨(l).toArray⟩) KC (hi := rfl) (k := ?_)
      refine WA.quiet 1 (d := 20) (.string ⟨(l).toArray⟩) KC (hi := rfl) (k := ?_)
      refine WA.quietR 2 (d := 21) (.int .u8 ((List.getD l (0 : Int).toNat 0).toNat : Int)) KC (exec_strAt (l := l) (i := 0) (kk := .i64) (by omega) (by first | omega | (simp; omega))) (hi := rfl) (k := ?_)
      have ub34 := u8_lt (List.getD l (0 : Int).toNat 0)
      refine WA.quiet 3 (d := 22) (.int .i64 (IntKind.i64.wrap ((List.getD l (0 : Int).toNat 0).toNat : Int))) KC (hi := rfl) (k := ?_)
      refine WA.rw (t := 22) (v := .int .i64 ((List.getD l (0 : Int).toNat 0).toNat : Int)) (congrArg (Value.int .i64) (IntWalk.i64_in _ (by omega))) (k := ?_)
      refine WA.quiet 4 (d := 23) (.int .i64 (IntKind.i64.wrap (5 + ((List.getD l (0 : Int).toNat 0).toNat : Int)))) KC (hi := rfl) (k := ?_)
      refine WA.rw (t := 23) (v := .int .i64 (5 + ((List.getD l (0 : Int).toNat 0).toNat : Int))) (congrArg (Value.int .i64) (IntWalk.i64_in _ (by omega))) (k := ?_)
      refine WA.quietR 5 (d := 24) (.string ⟨(List.drop 5 (List.take ((5 + ((List.getD l (0 : Int).toNat 0).toNat : Int)).toNat) l)).toArray⟩) KC (exec_cut (vx := .string ⟨(l).toArray⟩) (lo' := (some (.int .i64 5))) (hi' := (some (.int .i64 (5 + ((List.getD l (0 : Int).toNat 0).toNat : Int))))) (mx' := none) (fun w_ => run_cut (P := Tryz.prog) (w := w_) (lo := (some (.int .i64 5))) (hi := (some (.int .i64 (5 + ((List.getD l (0 : Int).toNat 0).toNat : Int))))) (T := 9) (a := 5) (b := (5 + ((List.getD l (0 : Int).toNat 0).toNat : Int)).toNat) (l := l) (by kernel_rfl) (.inr ⟨_, _, rfl, by omega⟩) (.inr ⟨_, _, rfl, by omega⟩) (by first | omega | (simp; omega)) (by first | omega | (simp; omega)))) (hi := rfl) (k := ?_)
      have pl35 := payS_len l
      refine WA.rw (t := 24) (v := .string ⟨(payS l).toArray⟩) (congrArg (fun l : List UInt8 => Value.string ⟨l.toArray⟩) (pay_cut l)) (k := ?_)
      refine WA.quiet 6 (d := 25) (.pointer (some ⟨b20, 0, none⟩)) KC (hi := rfl) (k := ?_)
      refine WA.quietR 7 (d := 26) (.int .u64 ((tgE l : Nat) : Int)) KC (exec_load (fun w_ k_ => ld1 (T := 32) (i := 0) (k_.heap bh33 id))) (hi := rfl) (k := ?_)
      refine WA.quiet 8 (d := 27) (.pointer (some ⟨b20, 1, none⟩)) KC (hi := rfl) (k := ?_)
      refine WA.quietR 9 (d := 28) (.int .u64 ((tgN l : Nat) : Int)) KC (exec_load (fun w_ k_ => ld1 (T := 32) (i := 1) (k_.heap bh33 id))) (hi := rfl) (k := ?_)
      refine WA.quiet 10 (d := 29) (.agg #[.string ⟨(payS l).toArray⟩, .int .u64 ((tgE l : Nat) : Int), .int .u64 ((tgN l : Nat) : Int)]) KC (hi := rfl) (k := ?_)
      refine WA.step 11 (hi := rfl) (k := ?_)
      refine WL.new (d := 5) (T := 72) #[.string ⟨#[]⟩, .int .u64 0, .int .u64 0] (k := fun b36 w37 g38 hb39 k40 => ?_)
      have z41 := Nat.le_trans K.size g38
      have zc42 := Nat.le_trans KC.size g38
      have n43 : b1 ≠ b36 := Nat.ne_of_lt (Nat.lt_of_lt_of_le (lt_of_heap hb4) g38)
      have n44 : b20 ≠ b36 := Nat.ne_of_lt (Nat.lt_of_lt_of_le (lt_of_heap hb28) g38)
      replace hb4 := k40.heap hb4 id
      replace hb28 := k40.heap hb28 id
      replace K := K.trans (k40.any _)
      replace KC := KC.trans (k40.any _)
      refine WL.nil ?_
      refine WX.nxt KC ?_
      refine WA.step 12 (hi := rfl) (k := ?_)
      refine WL.store (v := .agg #[.string ⟨(payS l).toArray⟩, .int .u64 ((tgE l : Nat) : Int), .int .u64 ((tgN l : Nat) : Int)]) (i := 0) (cs' := #[.string ⟨(payS l).toArray⟩, .int .u64 ((tgE l : Nat) : Int), .int .u64 ((tgN l : Nat) : Int)]) hb39 (k := fun w45 hb46 k47 => ?_)
      replace hb4 := k47.heap hb4 n43
      replace hb28 := k47.heap hb28 n44
      replace K := K.trans' k47 (fun i hi e => absurd (e ▸ hi) (Nat.not_lt.2 z41))
      clear hb39
      refine WL.nil ?_
      refine WX.nxtL ?_
      refine WA.done (k := ?_)
      clear KC
      refine WX.seqN ?_
      refine WC.seq ?_
      refine WC.region ?_
      refine WL.load (v := .agg #[.string ⟨(payS l).toArray⟩, .int .u64 ((tgE l : Nat) : Int), .int .u64 ((tgN l : Nat) : Int)]) (ldN (T := 72) (i := 0) (m := 3) (l := [.string ⟨(payS l).toArray⟩, .int .u64 ((tgE l : Nat) : Int), .int .u64 ((tgN l : Nat) : Int)]) hb46) (k := ?_)
      refine WL.callG (d := 32) (f := 35) (args := #[.agg #[.string ⟨(payS l).toArray⟩, .int .u64 ((tgE l : Nat) : Int), .int .u64 ((tgN l : Nat) : Int)]]) (u04Make_ok (p := (payS l)) (e := tgE l) (n := tgN l) (by first | omega | (simp; done) | (simp; omega)) (by show List.length (payS l) ≤ _; first | omega | (simp; done) | (simp; omega)) (by omega) (by omega) w45) (k := fun e_ w49 h_ => ⟨.tuple #[.string ⟨(makeS (payS l) (tgE l) (tgN l)).toArray⟩, .int .i64 0], h_.1, ?_⟩)
      have k50 := h_.2; clear h_
      replace hb4 := k50.heap hb4 id
      replace hb28 := k50.heap hb28 id
      replace hb46 := k50.heap hb46 id
      replace K := K.trans (k50.any _)
      have ml48 := makeS_len (p := (payS l)) (by first | omega | (simp; done) | (simp; omega)) (tgE l) (tgN l)
      refine WL.op (d := 30) (.tuple #[.string ⟨(makeS (payS l) (tgE l) (tgN l)).toArray⟩, .int .i64 0]) (k := ?_)
      refine WL.op (d := 33) (.string ⟨(makeS (payS l) (tgE l) (tgN l)).toArray⟩) (k := ?_)
      refine WL.op (d := 34) (.int .i64 0) (k := ?_)
      refine WL.op (d := 6) (.string ⟨(makeS (payS l) (tgE l) (tgN l)).toArray⟩) (k := ?_)
      refine WL.op (d := 7) (.int .i64 0) (k := ?_)
      refine WL.nil ?_
      refine WX.seqN ?_
      refine WC.seq ?_
      refine WC.seq ?_
      refine WC.region ?_
      refine WL.op (d := 35) (.string ⟨(makeS (payS l) (tgE l) (tgN l)).toArray⟩) (k := ?_)
      refine WL.op (d := 36) (.string ⟨(l).toArray⟩) (k := ?_)
      refine WL.opE (d := 37) (.bool !(ByteArray.toList ⟨(makeS (payS l) (tgE l) (tgN l)).toArray⟩ == ByteArray.toList ⟨(l).toArray⟩)) (v := .bool (!(decide (makeS (payS l) (tgE l) (tgN l) = l)))) (str_neq _ _) (k := ?_)
      refine WL.nil ?_
      refine WX.seqN ?_
      refine WC.cond (b := !(decide (makeS (payS l) (tgE l) (tgN l) = l))) (ht := fun h51 => ?_) (hf := fun h51 => ?_)
      · have h52 : (decide (makeS (payS l) (tgE l) (tgN l) = l)) = false := Bool.not_inj (y := false) h51
        have ph52 := of_decide_eq_false h52
        refine WC.seq ?_
        refine WC.region ?_
        refine WL.op (d := 38) (.agg #[.string ⟨#[]⟩, .int .u64 0, .int .u64 0]) (k := ?_)
        refine WL.store (v := .agg #[.string ⟨#[]⟩, .int .u64 0, .int .u64 0]) (i := 0) (cs' := #[.string ⟨#[]⟩, .int .u64 0, .int .u64 0]) hb4 (k := fun w53 hb54 k55 => ?_)
        replace hb28 := k55.heap hb28 (Ne.symm n26)
        replace hb46 := k55.heap hb46 (Ne.symm n43)
        replace K := K.trans' k55 (fun i hi e => absurd (e ▸ hi) (Nat.not_lt.2 z6))
        clear hb4
        refine WL.op (d := 3) (.bool false) (k := ?_)
        refine WL.nil ?_
        refine WX.seqN ?_
        refine WC.ret ?_
        refine WX.seqR ?_
        refine WX.ret (rs := [.cell 2 72, .tmp 3]) [.agg #[.string ⟨#[]⟩, .int .u64 0, .int .u64 0], .bool false] (.tuple #[.agg #[.string ⟨#[]⟩, .int .u64 0, .int .u64 0], .bool false]) ⟨⟨_, (by kernel_rfl), ldN (T := 72) (i := 0) (m := 3) (l := [.string ⟨#[]⟩, .int .u64 0, .int .u64 0]) hb54⟩, (by kernel_rfl), trivial⟩ (k := ?_)
        obtain ⟨e1_, e2_, e3_⟩ := rd_no (l := l) (fun k => ph52 ((mk_iff (by omega) ph12).1 k))
        exact ⟨by rw [e1_, e2_, e3_, decide_eq_false (fun k => ph52 ((mk_iff (by omega) ph12).1 k))]; rfl, K⟩
      · have h56 : (decide (makeS (payS l) (tgE l) (tgN l) = l)) = true := Bool.not_inj (y := true) h51
        have ph56 := of_decide_eq_true h56
        refine WC.skip ?_
        refine WX.seqN ?_
        refine WC.seq ?_
        refine WC.region ?_
        refine WL.load (v := .agg #[.string ⟨(payS l).toArray⟩, .int .u64 ((tgE l : Nat) : Int), .int .u64 ((tgN l : Nat) : Int)]) (ldN (T := 72) (i := 0) (m := 3) (l := [.string ⟨(payS l).toArray⟩, .int .u64 ((tgE l : Nat) : Int), .int .u64 ((tgN l : Nat) : Int)]) hb46) (k := ?_)
        refine WL.store (v := .agg #[.string ⟨(payS l).toArray⟩, .int .u64 ((tgE l : Nat) : Int), .int .u64 ((tgN l : Nat) : Int)]) (i := 0) (cs' := #[.string ⟨(payS l).toArray⟩, .int .u64 ((tgE l : Nat) : Int), .int .u64 ((tgN l : Nat) : Int)]) hb4 (k := fun w57 hb58 k59 => ?_)
        replace hb28 := k59.heap hb28 (Ne.symm n26)
        replace hb46 := k59.heap hb46 (Ne.symm n43)
        replace K := K.trans' k59 (fun i hi e => absurd (e ▸ hi) (Nat.not_lt.2 z6))
        clear hb4
        refine WL.op (d := 3) (.bool true) (k := ?_)
        refine WL.nil ?_
        refine WX.seqN ?_
        refine WC.ret ?_
        refine WX.ret (rs := [.cell 2 72, .tmp 3]) [.agg #[.string ⟨(payS l).toArray⟩, .int .u64 ((tgE l : Nat) : Int), .int .u64 ((tgN l : Nat) : Int)], .bool true] (.tuple #[.agg #[.string ⟨(payS l).toArray⟩, .int .u64 ((tgE l : Nat) : Int), .int .u64 ((tgN l : Nat) : Int)], .bool true]) ⟨⟨_, (by kernel_rfl), ldN (T := 72) (i := 0) (m := 3) (l := [.string ⟨(payS l).toArray⟩, .int .u64 ((tgE l : Nat) : Int), .int .u64 ((tgN l : Nat) : Int)]) hb58⟩, (by kernel_rfl), trivial⟩ (k := ?_)
        obtain ⟨e1_, e2_, e3_⟩ := rd_yes ((mk_iff (by omega) ph12).2 ph56)
        exact ⟨by rw [e1_, e2_, e3_, decide_eq_true ((mk_iff (by omega) ph12).2 ph56)], K⟩
set_option maxRecDepth 100000 in
set_option maxHeartbeats 4000000 in
theorem fWhole_c {l : List UInt8} {e n : Nat} (hm : l.length ≤ 1000000) (w : World) : Calls Tryz.prog 39 #[.string ⟨l.toArray⟩, .int .u64 (e : Int), .int .u64 (n : Int)] w fun e_ w' => e_ = .returned (.bool (decide (isCell l ∧ rdE l = e ∧ rdN l = n))) ∧ Adds w w' := by
  have K : Keeps (fun _ => False) w w := Keeps.refl _ w
  refine Calls.start Tryz.func39 rfl (by kernel_rfl) ?_
  refine WC.seq ?_
  refine WC.region ?_
  refine WL.op (d := 6) (.bool false) (k := ?_)
  refine WL.nil ?_
  refine WX.seqN ?_
  refine WC.seq ?_
  refine WC.region ?_
  refine WL.op (d := 10) (.string ⟨(l).toArray⟩) (k := ?_)
  refine WL.callG (d := 11) (f := 40) (args := #[.string ⟨(l).toArray⟩]) (fRead_c (l := l) (by show List.length l ≤ _; first | omega | (simp; done) | (simp; omega)) w) (k := fun e_ w4 h_ => ⟨.tuple #[.agg #[.string ⟨(rdP l).toArray⟩, .int .u64 ((rdE l : Nat) : Int), .int .u64 ((rdN l : Nat) : Int)], .bool (decide (isCell l))], h_.1, ?_⟩)
  have k5 := h_.2; clear h_
  replace K := K.trans (k5.any _)
  have te1 := rdE_lt l
  have te2 := rdN_lt l
  have te3 := rdP_len l
  refine WL.op (d := 9) (.tuple #[.agg #[.string ⟨(rdP l).toArray⟩, .int .u64 ((rdE l : Nat) : Int), .int .u64 ((rdN l : Nat) : Int)], .bool (decide (isCell l))]) (k := ?_)
  refine WL.op (d := 12) (.agg #[.string ⟨(rdP l).toArray⟩, .int .u64 ((rdE l : Nat) : Int), .int .u64 ((rdN l : Nat) : Int)]) (k := ?_)
  refine WL.op (d := 13) (.bool (decide (isCell l))) (k := ?_)
  refine WL.new (d := 7) (T := 72) #[.string ⟨#[]⟩, .int .u64 0, .int .u64 0] (k := fun b6 w7 g8 hb9 k10 => ?_)
  have z11 := Nat.le_trans K.size g8
  replace K := K.trans (k10.any _)
  refine WL.store (v := .agg #[.string ⟨(rdP l).toArray⟩, .int .u64 ((rdE l : Nat) : Int), .int .u64 ((rdN l : Nat) : Int)]) (i := 0) (cs' := #[.string ⟨(rdP l).toArray⟩, .int .u64 ((rdE l : Nat) : Int), .int .u64 ((rdN l : Nat) : Int)]) hb9 (k := fun w12 hb13 k14 => ?_)
  replace K := K.trans' k14 (fun i hi e => absurd (e ▸ hi) (Nat.not_lt.2 z11))
  clear hb9
  refine WL.op (d := 8) (.bool (decide (isCell l))) (k := ?_)
  refine WL.nil ?_
  refine WX.seqN ?_
  refine WC.seq ?_
  refine WC.region ?_
  refine WL.op (d := 14) (.bool (decide (isCell l))) (k := ?_)
  refine WL.op (d := 15) (.bool (decide (isCell l))) (k := ?_)
  refine bsplit (decide (isCell l)) (fun h15 => ?_) (fun h15 => ?_)
  · have ph15 := of_decide_eq_true h15
    refine WL.rw (t := 15) (v := .bool true) (congrArg Value.bool h15) (k := ?_)
    refine WL.op (d := 16) (.pointer (some ⟨b6, 1, none⟩)) (k := ?_)
    refine WL.load (v := .int .u64 ((rdE l : Nat) : Int)) (ld1 (T := 32) (i := 1) hb13) (k := ?_)
    refine WL.op (d := 18) (.int .u64 ((e : Nat) : Int)) (k := ?_)
    refine WL.op (d := 19) (.bool (((rdE l : Nat) : Int) == ((e : Nat) : Int))) (k := ?_)
    refine WL.op (d := 20) (.bool (((rdE l : Nat) : Int) == ((e : Nat) : Int))) (k := ?_)
    refine WL.op (d := 21) (.bool (((rdE l : Nat) : Int) == ((e : Nat) : Int))) (k := ?_)
    refine bsplit (((rdE l : Nat) : Int) == ((e : Nat) : Int)) (fun h16 => ?_) (fun h16 => ?_)
    · have ph16 := eq_of_beq h16
      refine WL.rw (t := 21) (v := .bool true) (congrArg Value.bool h16) (k := ?_)
      refine WL.op (d := 22) (.pointer (some ⟨b6, 2, none⟩)) (k := ?_)
      refine WL.load (v := .int .u64 ((rdN l : Nat) : Int)) (ld1 (T := 32) (i := 2) hb13) (k := ?_)
      refine WL.op (d := 24) (.int .u64 ((n : Nat) : Int)) (k := ?_)
      refine WL.op (d := 25) (.bool (((rdN l : Nat) : Int) == ((n : Nat) : Int))) (k := ?_)
      refine WL.op (d := 26) (.bool (((rdN l : Nat) : Int) == ((n : Nat) : Int))) (k := ?_)
      refine WL.op (d := 6) (.bool (((rdN l : Nat) : Int) == ((n : Nat) : Int))) (k := ?_)
      refine WL.nil ?_
      refine WX.seqN ?_
      refine WC.ret ?_
      refine WX.ret (rs := [.tmp 6]) [.bool (((rdN l : Nat) : Int) == ((n : Nat) : Int))] (.bool (((rdN l : Nat) : Int) == ((n : Nat) : Int))) ⟨(by kernel_rfl), trivial⟩ (k := ?_)
      exact ⟨ret_bool (wh_fin ph15 ph16), K⟩
    · have ph16 := ne_of_beq_false h16
      refine WL.rw (t := 21) (v := .bool false) (congrArg Value.bool h16) (k := ?_)
      refine WL.skip (d := 22) (k := ?_)
      refine WL.skip (d := 23) (k := ?_)
      refine WL.skip (d := 24) (k := ?_)
      refine WL.skip (d := 25) (k := ?_)
      refine WL.op (d := 26) (.bool false) (k := ?_)
      refine WL.op (d := 6) (.bool false) (k := ?_)
      refine WL.nil ?_
      refine WX.seqN ?_
      refine WC.ret ?_
      refine WX.ret (rs := [.tmp 6]) [.bool false] (.bool false) ⟨(by kernel_rfl), trivial⟩ (k := ?_)
      exact ⟨ret_bool (wh_no2 ph16), K⟩
  · have ph15 := of_decide_eq_false h15
    refine WL.rw (t := 15) (v := .bool false) (congrArg Value.bool h15) (k := ?_)
    refine WL.skip (d := 16) (k := ?_)
    refine WL.skip (d := 17) (k := ?_)
    refine WL.skip (d := 18) (k := ?_)
    refine WL.skip (d := 19) (k := ?_)
    refine WL.op (d := 20) (.bool false) (k := ?_)
    refine WL.op (d := 21) (.bool false) (k := ?_)
    refine WL.skip (d := 22) (k := ?_)
    refine WL.skip (d := 23) (k := ?_)
    refine WL.skip (d := 24) (k := ?_)
    refine WL.skip (d := 25) (k := ?_)
    refine WL.op (d := 26) (.bool false) (k := ?_)
    refine WL.op (d := 6) (.bool false) (k := ?_)
    refine WL.nil ?_
    refine WX.seqN ?_
    refine WC.ret ?_
    refine WX.ret (rs := [.tmp 6]) [.bool false] (.bool false) ⟨(by kernel_rfl), trivial⟩ (k := ?_)
    exact ⟨ret_bool (wh_no ph15), K⟩
set_option maxRecDepth 100000 in
set_option maxHeartbeats 4000000 in
theorem u04Whole_c {l : List UInt8} {e n : Nat} (hm : l.length ≤ 1000000) (w : World) : Calls Tryz.prog 31 #[.string ⟨l.toArray⟩, .int .u64 (e : Int), .int .u64 (n : Int)] w fun e_ w' => e_ = .returned (.bool (decide (isCell l ∧ rdE l = e ∧ rdN l = n))) ∧ Adds w w' := by
  have K : Keeps (fun _ => False) w w := Keeps.refl _ w
  refine Calls.start Tryz.func31 rfl (by kernel_rfl) ?_
  refine WC.seq ?_
  refine WC.region ?_
  refine WL.op (d := 6) (.bool false) (k := ?_)
  refine WL.nil ?_
  refine WX.seqN ?_
  refine WC.seq ?_
  refine WC.region ?_
  refine WL.op (d := 10) (.string ⟨(l).toArray⟩) (k := ?_)
  refine WL.callG (d := 11) (f := 32) (args := #[.string ⟨(l).toArray⟩]) (u04Read_c (l := l) (by show List.length l ≤ _; first | omega | (simp; done) | (simp; omega)) w) (k := fun e_ w4 h_ => ⟨.tuple #[.agg #[.string ⟨(rdP l).toArray⟩, .int .u64 ((rdE l : Nat) : Int), .int .u64 ((rdN l : Nat) : Int)], .bool (decide (isCell l))], h_.1, ?_⟩)
  have k5 := h_.2; clear h_
  replace K := K.trans (k5.any _)
  have te1 := rdE_lt l
  have te2 := rdN_lt l
  have te3 := rdP_len l
  refine WL.op (d := 9) (.tuple #[.agg #[.string ⟨(rdP l).toArray⟩, .int .u64 ((rdE l : Nat) : Int), .int .u64 ((rdN l : Nat) : Int)], .bool (decide (isCell l))]) (k := ?_)
  refine WL.op (d := 12) (.agg #[.string ⟨(rdP l).toArray⟩, .int .u64 ((rdE l : Nat) : Int), .int .u64 ((rdN l : Nat) : Int)]) (k := ?_)
  refine WL.op (d := 13) (.bool (decide (isCell l))) (k := ?_)
  refine WL.new (d := 7) (T := 72) #[.string ⟨#[]⟩, .int .u64 0, .int .u64 0] (k := fun b6 w7 g8 hb9 k10 => ?_)
  have z11 := Nat.le_trans K.size g8
  replace K := K.trans (k10.any _)
  refine WL.store (v := .agg #[.string ⟨(rdP l).toArray⟩, .int .u64 ((rdE l : Nat) : Int), .int .u64 ((rdN l : Nat) : Int)]) (i := 0) (cs' := #[.string ⟨(rdP l).toArray⟩, .int .u64 ((rdE l : Nat) : Int), .int .u64 ((rdN l : Nat) : Int)]) hb9 (k := fun w12 hb13 k14 => ?_)
  replace K := K.trans' k14 (fun i hi e => absurd (e ▸ hi) (Nat.not_lt.2 z11))
  clear hb9
  refine WL.op (d := 8) (.bool (decide (isCell l))) (k := ?_)
  refine WL.nil ?_
  refine WX.seqN ?_
  refine WC.seq ?_
  refine WC.region ?_
  refine WL.op (d := 14) (.bool (decide (isCell l))) (k := ?_)
  refine WL.op (d := 15) (.bool (decide (isCell l))) (k := ?_)
  refine bsplit (decide (isCell l)) (fun h15 => ?_) (fun h15 => ?_)
  · have ph15 := of_decide_eq_true h15
    refine WL.rw (t := 15) (v := .bool true) (congrArg Value.bool h15) (k := ?_)
    refine WL.op (d := 16) (.pointer (some ⟨b6, 1, none⟩)) (k := ?_)
    refine WL.load (v := .int .u64 ((rdE l : Nat) : Int)) (ld1 (T := 32) (i := 1) hb13) (k := ?_)
    refine WL.op (d := 18) (.int .u64 ((e : Nat) : Int)) (k := ?_)
    refine WL.op (d := 19) (.bool (((rdE l : Nat) : Int) == ((e : Nat) : Int))) (k := ?_)
    refine WL.op (d := 20) (.bool (((rdE l : Nat) : Int) == ((e : Nat) : Int))) (k := ?_)
    refine WL.op (d := 21) (.bool (((rdE l : Nat) : Int) == ((e : Nat) : Int))) (k := ?_)
    refine bsplit (((rdE l : Nat) : Int) == ((e : Nat) : Int)) (fun h16 => ?_) (fun h16 => ?_)
    · have ph16 := eq_of_beq h16
      refine WL.rw (t := 21) (v := .bool true) (congrArg Value.bool h16) (k := ?_)
      refine WL.op (d := 22) (.pointer (some ⟨b6, 2, none⟩)) (k := ?_)
      refine WL.load (v := .int .u64 ((rdN l : Nat) : Int)) (ld1 (T := 32) (i := 2) hb13) (k := ?_)
      refine WL.op (d := 24) (.int .u64 ((n : Nat) : Int)) (k := ?_)
      refine WL.op (d := 25) (.bool (((rdN l : Nat) : Int) == ((n : Nat) : Int))) (k := ?_)
      refine WL.op (d := 26) (.bool (((rdN l : Nat) : Int) == ((n : Nat) : Int))) (k := ?_)
      refine WL.op (d := 6) (.bool (((rdN l : Nat) : Int) == ((n : Nat) : Int))) (k := ?_)
      refine WL.nil ?_
      refine WX.seqN ?_
      refine WC.ret ?_
      refine WX.ret (rs := [.tmp 6]) [.bool (((rdN l : Nat) : Int) == ((n : Nat) : Int))] (.bool (((rdN l : Nat) : Int) == ((n : Nat) : Int))) ⟨(by kernel_rfl), trivial⟩ (k := ?_)
      exact ⟨ret_bool (wh_fin ph15 ph16), K⟩
    · have ph16 := ne_of_beq_false h16
      refine WL.rw (t := 21) (v := .bool false) (congrArg Value.bool h16) (k := ?_)
      refine WL.skip (d := 22) (k := ?_)
      refine WL.skip (d := 23) (k := ?_)
      refine WL.skip (d := 24) (k := ?_)
      refine WL.skip (d := 25) (k := ?_)
      refine WL.op (d := 26) (.bool false) (k := ?_)
      refine WL.op (d := 6) (.bool false) (k := ?_)
      refine WL.nil ?_
      refine WX.seqN ?_
      refine WC.ret ?_
      refine WX.ret (rs := [.tmp 6]) [.bool false] (.bool false) ⟨(by kernel_rfl), trivial⟩ (k := ?_)
      exact ⟨ret_bool (wh_no2 ph16), K⟩
  · have ph15 := of_decide_eq_false h15
    refine WL.rw (t := 15) (v := .bool false) (congrArg Value.bool h15) (k := ?_)
    refine WL.skip (d := 16) (k := ?_)
    refine WL.skip (d := 17) (k := ?_)
    refine WL.skip (d := 18) (k := ?_)
    refine WL.skip (d := 19) (k := ?_)
    refine WL.op (d := 20) (.bool false) (k := ?_)
    refine WL.op (d := 21) (.bool false) (k := ?_)
    refine WL.skip (d := 22) (k := ?_)
    refine WL.skip (d := 23) (k := ?_)
    refine WL.skip (d := 24) (k := ?_)
    refine WL.skip (d := 25) (k := ?_)
    refine WL.op (d := 26) (.bool false) (k := ?_)
    refine WL.op (d := 6) (.bool false) (k := ?_)
    refine WL.nil ?_
    refine WX.seqN ?_
    refine WC.ret ?_
    refine WX.ret (rs := [.tmp 6]) [.bool false] (.bool false) ⟨(by kernel_rfl), trivial⟩ (k := ?_)
    exact ⟨ret_bool (wh_no ph15), K⟩
end Go.Proofs.YtnkkbeafcfjkmaaGreatDoor
namespace Go.Proofs.YtnkkbeafcfjkmaaGreatDoor
open Go.RowKit
set_option linter.unusedVariables false
set_option linter.unusedSimpArgs false
set_option maxRecDepth 100000 in
set_option maxHeartbeats 4000000 in
theorem u04Same_c {A B : Option Addr} {cp cq : Nat} {xs ys : List (List UInt8)} {w : World} (hA : SlAt strC 1 9 A xs w) (hB : SlAt strC 1 9 B ys w) (hn : xs.length ≤ 1000000000) (hm : ys.length ≤ 1000000000) : Calls Tryz.prog 11 #[.slice A xs.length cp, .slice B ys.length cq] w fun e w' => e = .returned (.bool (decide (xs = ys))) ∧ Adds w w' := by
  have K : Keeps (fun _ => False) w w := Keeps.refl _ w
  refine Calls.start Tryz.func11 rfl (by kernel_rfl) ?_
  refine WC.seq ?_
  refine WC.region ?_
  refine WL.op (d := 4) (.bool false) (k := ?_)
  refine WL.nil ?_
  refine WX.seqN ?_
  refine WC.seq ?_
  refine WC.seq ?_
  refine WC.region ?_
  refine WL.op (d := 6) (.slice A xs.length cp) (k := ?_)
  refine WL.op (d := 7) (.int .i64 (xs.length : Int)) (k := ?_)
  refine WL.op (d := 8) (.slice B ys.length cq) (k := ?_)
  refine WL.op (d := 9) (.int .i64 (ys.length : Int)) (k := ?_)
  refine WL.op (d := 10) (.bool ((xs.length : Int) != (ys.length : Int))) (k := ?_)
  refine WL.nil ?_
  refine WX.seqN ?_
  refine WC.cond (b := (xs.length : Int) != (ys.length : Int)) (ht := fun h1 => ?_) (hf := fun h1 => ?_)
  · have ph1 := bne_iff_ne.1 h1
    refine WC.seq ?_
    refine WC.region ?_
    refine WL.op (d := 4) (.bool false) (k := ?_)
    refine WL.nil ?_
    refine WX.seqN ?_
    refine WC.ret ?_
    refine WX.seqR ?_
    refine WX.ret (rs := [.tmp 4]) [.bool false] (.bool false) ⟨(by kernel_rfl), trivial⟩ (k := ?_)
    exact ⟨ret_bool (eqU_len (by omega)), K⟩
  · have ph1 := of_bne_false h1
    refine WC.skip ?_
    refine WX.seqN ?_
    refine WC.seq ?_
    refine WC.seq ?_
    refine WC.region ?_
    refine WL.op (d := 5) (.int .i64 0) (k := ?_)
    refine WL.nil ?_
    refine WX.seqN ?_
    refine WC.block ?_
    refine WC.loop (ι := Int) (fun (i : Int) => [(0, .slice A xs.length cp), (1, .slice B ys.length cq), (6, .slice A xs.length cp), (7, .int .i64 (xs.length : Int)), (8, .slice B ys.length cq), (9, .int .i64 (ys.length : Int)), (10, .bool ((xs.length : Int) != (ys.length : Int))), (5, .int .i64 i)]) (fun (i : Int) (w_ : World) => (Keeps (fun _ => False) w w_) ∧ (0 ≤ i) ∧ (i ≤ xs.length) ∧ (eqU xs ys i)) (fun (i : Int) => (xs.length - i).toNat) 0 ⟨(by kernel_rfl), (by kernel_rfl), (by kernel_rfl), (by kernel_rfl), (by kernel_rfl), (by kernel_rfl), (by kernel_rfl), (by kernel_rfl), trivial⟩ ⟨K, Int.le_refl 0, (by omega), eqU_zero _ _⟩ ?_
    rintro i w2 ⟨K, i0, i1, iu⟩
    refine WC.seq ?_
    refine WC.seq ?_
    refine WC.region ?_
    refine WL.op (d := 11) (.int .i64 i) (k := ?_)
    refine WL.op (d := 12) (.slice A xs.length cp) (k := ?_)
    refine WL.op (d := 13) (.int .i64 (xs.length : Int)) (k := ?_)
    refine WL.op (d := 14) (.bool (decide (i < (xs.length : Int)))) (k := ?_)
    refine WL.nil ?_
    refine WX.seqN ?_
    refine WC.cond (b := decide (i < (xs.length : Int))) (ht := fun h3 => ?_) (hf := fun h3 => ?_)
    · have ph3 := of_decide_eq_true h3
      refine WC.skip ?_
      refine WX.seqN ?_
      refine WC.seq ?_
      refine WC.block ?_
      refine WC.seq ?_
      refine WC.quiet (k := ?_)
      refine WQ.op (d := 17) (.slice A xs.length cp) (k := ?_)
      refine WQ.op (d := 18) (.int .i64 i) (k := ?_)
      obtain ⟨b4, o5, r6, hr7, hA8, he9⟩ := SlAt.at hA (i := i) (by omega) (by omega)
      refine WQ.rw (t := 17) (v := .slice (some ⟨b4, o5, none⟩) xs.length cp) (congrArg (fun a => Value.slice a xs.length cp) hA8) (k := ?_)
      refine WQ.idx (T := 36) (E := 9) (m := 1) (b := b4) (o := o5) (len := xs.length) (cap := cp) (i := i) (kk := .i64) (d := 19) (by omega) (by omega) (k := ?_)
      refine WQ.rw (t := 17) (v := .slice A xs.length cp) (congrArg (fun a => Value.slice a xs.length cp) (Eq.symm hA8)) (k := ?_)
      refine WQ.load (v := .string ⟨(r6).toArray⟩) (fun w_ k_ => ((he9.adds K).adds k_).ld0 (T := 9)) (k := ?_)
      refine WQ.op (d := 21) (.slice B ys.length cq) (k := ?_)
      refine WQ.op (d := 22) (.int .i64 i) (k := ?_)
      obtain ⟨b10, o11, r12, hr13, hA14, he15⟩ := SlAt.at hB (i := i) (by omega) (by omega)
      refine WQ.rw (t := 21) (v := .slice (some ⟨b10, o11, none⟩) ys.length cq) (congrArg (fun a => Value.slice a ys.length cq) hA14) (k := ?_)
      refine WQ.idx (T := 36) (E := 9) (m := 1) (b := b10) (o := o11) (len := ys.length) (cap := cq) (i := i) (kk := .i64) (d := 23) (by omega) (by omega) (k := ?_)
      refine WQ.rw (t := 21) (v := .slice B ys.length cq) (congrArg (fun a => Value.slice a ys.length cq) (Eq.symm hA14)) (k := ?_)
      refine WQ.load (v := .string ⟨(r12).toArray⟩) (fun w_ k_ => ((he15.adds K).adds k_).ld0 (T := 9)) (k := ?_)
      refine WQ.opE (d := 25) (.bool !(ByteArray.toList ⟨(r6).toArray⟩ == ByteArray.toList ⟨(r12).toArray⟩)) (v := .bool (!(decide (r6 = r12)))) (str_neq _ _) (k := ?_)
      refine WQ.nilX (fun w16 k17 => ?_)
      replace K := K.trans (k17.any _)
      refine WX.seqN ?_
      refine WC.cond (b := !(decide (r6 = r12))) (ht := fun h18 => ?_) (hf := fun h18 => ?_)
      · have h19 : (decide (r6 = r12)) = false := Bool.not_inj (y := false) h18
        have ph19 := of_decide_eq_false h19
        refine WC.seq ?_
        refine WC.region ?_
        refine WL.op (d := 4) (.bool false) (k := ?_)
        refine WL.nil ?_
        refine WX.seqN ?_
        refine WC.ret ?_
        refine WX.blockR ?_
        refine WX.seqR ?_
        refine WX.seqR ?_
        refine WX.blockR ?_
        refine WX.seqR ?_
        refine WX.ret (rs := [.tmp 4]) [.bool false] (.bool false) ⟨(by kernel_rfl), trivial⟩ (k := ?_)
        exact ⟨ret_bool (eqU_bad hr7 hr13 ph19), K⟩
      · have h20 : (decide (r6 = r12)) = true := Bool.not_inj (y := true) h18
        have ph20 := of_decide_eq_true h20
        refine WC.skip ?_
        refine WX.blockN ?_
        refine WX.seqN ?_
        refine WC.region ?_
        refine WL.op (d := 15) (.int .i64 i) (k := ?_)
        refine WL.opE (d := 16) (.int .i64 (IntKind.i64.wrap (i + 1))) (v := .int .i64 (i + 1)) (congrArg (Value.int .i64) (IntWalk.i64_in _ (by omega))) (k := ?_)
        refine WL.op (d := 5) (.int .i64 (i + 1)) (k := ?_)
        refine WL.nil ?_
        refine WX.round (i + 1) (by show (xs.length - (i + 1)).toNat < (xs.length - i).toNat; omega) ⟨(by kernel_rfl), (by kernel_rfl), (by kernel_rfl), (by kernel_rfl), (by kernel_rfl), (by kernel_rfl), (by kernel_rfl), (by kernel_rfl), trivial⟩ ⟨K, (by omega), (by omega), (eqU_succ i0 iu hr7 hr13 ph20)⟩
    · have ph3 := of_decide_eq_false h3
      refine WC.exit ?_
      refine WX.seqE ?_
      refine WX.seqE ?_
      refine WX.blockE ?_
      refine WX.seqN ?_
      refine WC.seq ?_
      refine WC.region ?_
      refine WL.op (d := 4) (.bool true) (k := ?_)
      refine WL.nil ?_
      refine WX.seqN ?_
      refine WC.ret ?_
      refine WX.ret (rs := [.tmp 4]) [.bool true] (.bool true) ⟨(by kernel_rfl), trivial⟩ (k := ?_)
      exact ⟨ret_bool (eqU_end (i := i) (by omega) (by omega) iu), K⟩
end Go.Proofs.YtnkkbeafcfjkmaaGreatDoor
namespace Go.Proofs.YtnkkbeafcfjkmaaGreatDoor
open Go.RowKit
set_option linter.unusedVariables false
set_option linter.unusedSimpArgs false
theorem rd_mk {p : List UInt8} {e n : Nat} (hp : p.length ≤ 43) (he : e < 18446744073709551616) (hn : n < 18446744073709551616) : rdP (makeS p e n) = p ∧ rdE (makeS p e n) = e ∧ rdN (makeS p e n) = n ∧ decide (isCell (makeS p e n)) = true := by
  have h := make_cell hp he hn
  refine ⟨?_, ?_, ?_, decide_eq_true h⟩
  · rw [rdP, if_pos h, make_pay hp]
  · rw [rdE, if_pos h, make_ep hp he]
  · rw [rdN, if_pos h, make_nu hp hn]
end Go.Proofs.YtnkkbeafcfjkmaaGreatDoor
namespace Go.Proofs.YtnkkbeafcfjkmaaGreatDoor
open Go.RowKit
set_option linter.unusedVariables false
set_option linter.unusedSimpArgs false
def secC (l : List UInt8) : List Value := (List.range 64).map fun i => .int .u8 ((l.getD i 0).toNat : Int)
abbrev secV (l : List UInt8) : Value := .agg (secC l).toArray
def wrC (x : Int × List UInt8) : List Value := .int .i64 x.1 :: secC x.2
abbrev wrV (x : Int × List UInt8) : Value := .agg (wrC x).toArray
theorem secC_len (l : List UInt8) : (secC l).length = 64 := by simp [secC]
theorem ekSec : EK secC 64 76 := EK.of (z := secV []) (bt := 64) secC_len (fun x => List.all_eq_true.2 fun u hu => by simp only [secC, List.mem_map] at hu; obtain ⟨i, _, rfl⟩ := hu; rfl) (by decide) (by kernel_rfl) (by simp [Value.cells, secC]) (by decide)
theorem ekWr : EK wrC 65 78 := EK.of (z := wrV (0, [])) (bt := 72) (fun x => by simp [wrC, secC]) (fun x => List.all_eq_true.2 fun u hu => by simp only [wrC, secC, List.mem_cons, List.mem_map] at hu; rcases hu with rfl | ⟨i, _, rfl⟩ <;> rfl) (by decide) (by kernel_rfl) (by simp [Value.cells, wrC, secC]) (by decide)
theorem getD_list {l : List UInt8} (h : l.length = 64) : (List.range 64).map (fun i => l.getD i 0) = l := by
  apply List.ext_getElem
  · simp [h]
  · intro i h1 h2
    simp [List.getD, h2]
theorem secC_bytes {l : List UInt8} (h : l.length = 64) : secC l = l.flatMap u8C := by
  rw [u8C_flat]
  conv => rhs; rw [← getD_list h]
  simp [secC, Lib.byteCells]
structure GDisk where
  secs : List (List UInt8)
  opn : List (Int × List UInt8)
  fail : Int
  reads : Int
def tickF (f : Int) : Int := if f = 0 then 0 else f - 1
namespace GDisk
def zero (n : Nat) : GDisk := ⟨List.replicate n (List.replicate 64 0), [], 0, 0⟩
def ok (d : GDisk) : Prop := (∀ s ∈ d.secs, s.length = 64) ∧ (∀ x ∈ d.opn, x.2.length = 64 ∧ 0 ≤ x.1 ∧ x.1 < d.secs.length) ∧ 0 ≤ d.fail ∧ d.fail ≤ 9223372036854775807 ∧ d.secs.length ≤ 1024 ∧ d.opn.length ≤ 1000000
def has (d : GDisk) (a : Int) : Prop := 0 ≤ a ∧ a < d.secs.length
instance (d : GDisk) (a : Int) : Decidable (d.has a) := by unfold has; infer_instance
def tick (d : GDisk) : GDisk := ⟨d.secs, d.opn, tickF d.fail, d.reads⟩
def put (secs : List (List UInt8)) (x : Int × List UInt8) : List (List UInt8) := secs.set x.1.toNat x.2
def over (a : Int) (s : List UInt8) (x : Int × List UInt8) : List UInt8 := if x.1 = a then x.2 else s
def at_ (d : GDisk) (a : Int) : List UInt8 := d.opn.foldl (over a) (d.secs.getD a.toNat [])
def readT (d : GDisk) (a : Int) : List UInt8 := if d.has a ∧ d.fail ≠ 1 then d.at_ a else []
def readE (d : GDisk) (a : Int) : Int := if ¬ d.has a then 1 else if d.fail = 1 then 18 else 0
def readD (d : GDisk) (a : Int) : GDisk := if ¬ d.has a then d else ⟨d.secs, d.opn, tickF d.fail, IntKind.i64.wrap (d.reads + 1)⟩
def writeE (d : GDisk) (a : Int) (l : List UInt8) : Int := if ¬ (d.has a ∧ l.length = 64) then 1 else if d.fail = 1 then 18 else 0
def writeD (d : GDisk) (a : Int) (l : List UInt8) : GDisk := if ¬ (d.has a ∧ l.length = 64) then d else if d.fail = 1 then d.tick else ⟨d.secs, d.opn ++ [(a, l)], tickF d.fail, d.reads⟩
def flushE (d : GDisk) : Int := if d.fail = 1 then 18 else 0
def flushD (d : GDisk) : GDisk := if d.fail = 1 then d.tick else ⟨d.opn.foldl put d.secs, [], tickF d.fail, d.reads⟩
def failD (d : GDisk) (n : Int) : GDisk := ⟨d.secs, d.opn, if 0 > n then 0 else n, d.reads⟩
end GDisk
def DiskAt (S : Nat → Prop) (b : Nat) (d : GDisk) (w : World) : Prop :=
  ∃ A1 c1 A2 c2, w.heap[b]? = some (.cells #[.slice A1 d.secs.length c1, .slice A2 d.opn.length c2, .int .i64 d.fail, .int .i64 d.reads] 54 (0, 0)) ∧
    OwAt secC 64 76 A1 c1 d.secs w ∧ OwAt wrC 65 78 A2 c2 d.opn w ∧ (∀ k, S k ↔ k = b ∨ blk A1 = some k ∨ blk A2 = some k) ∧ d.ok
theorem DiskAt.keeps {S S' : Nat → Prop} {b : Nat} {d : GDisk} {w w' : World} (h : DiskAt S b d w) (k : Keeps S' w w') (hn : ∀ i, S i → ¬ S' i) : DiskAt S b d w' := by
  obtain ⟨A1, c1, A2, c2, hb, h1, h2, hS, ho⟩ := h
  exact ⟨A1, c1, A2, c2, k.heap hb (hn b ((hS b).2 (.inl rfl))), h1.keeps k (fun i hi => hn i ((hS i).2 (.inr (.inl hi)))), h2.keeps k (fun i hi => hn i ((hS i).2 (.inr (.inr hi)))), hS, ho⟩
theorem DiskAt.adds {S : Nat → Prop} {b : Nat} {d : GDisk} {w w' : World} (h : DiskAt S b d w) (k : Adds w w') : DiskAt S b d w' := h.keeps k (fun _ _ x => x)
theorem DiskAt.lt {S : Nat → Prop} {b : Nat} {d : GDisk} {w : World} (h : DiskAt S b d w) : ∀ i, S i → i < w.heap.size := by
  obtain ⟨A1, c1, A2, c2, hb, h1, h2, hS, ho⟩ := h
  intro i hi
  rcases (hS i).1 hi with rfl | hi | hi
  · exact lt_of_heap hb
  · exact h1.lt i hi
  · exact h2.lt i hi
theorem DiskAt.mem {S : Nat → Prop} {b : Nat} {d : GDisk} {w : World} (h : DiskAt S b d w) : S b := by
  obtain ⟨A1, c1, A2, c2, hb, h1, h2, hS, ho⟩ := h; exact (hS b).2 (.inl rfl)
theorem fp_step {A A' : Option Addr} {S : Nat → Prop} {w : World} (n : blk A' = blk A ∨ ∃ k, blk A' = some k ∧ w.heap.size ≤ k) (h : ∀ i, blk A = some i → ¬ S i) (lt : ∀ i, S i → i < w.heap.size) : ∀ i, blk A' = some i → ¬ S i := fun i hi hs => by
  rcases n with n | ⟨k, n, hk⟩
  · exact h i (n ▸ hi) hs
  · rw [n] at hi; cases hi; exact absurd (lt _ hs) (Nat.not_lt.2 hk)
theorem lk_step {S0 S S' T : Nat → Prop} {w0 w : World} (lk : ∀ k, S k → S0 k ∨ w0.heap.size ≤ k) (lkn : ∀ k, S' k → S k ∨ w.heap.size ≤ k) (K : Keeps T w0 w) : ∀ k, S' k → S0 k ∨ w0.heap.size ≤ k := fun k h =>
  (lkn k h).elim (lk k) (fun h2 => .inr (Nat.le_trans K.size h2))
theorem DiskAt.ok {S : Nat → Prop} {b : Nat} {d : GDisk} {w : World} (h : DiskAt S b d w) : d.ok := by
  obtain ⟨A1, c1, A2, c2, hb, h1, h2, hS, ho⟩ := h; exact ho
def DkPost (S : Nat → Prop) (b : Nat) (d : GDisk) (w w' : World) : Prop := ∃ S', DiskAt S' b d w' ∧ (∀ k, S' k → S k ∨ w.heap.size ≤ k) ∧ Keeps S w w'
theorem DiskAt.mk {b : Nat} {A1 A2 : Option Addr} {c1 c2 : Nat} {d : GDisk} {w : World} (hb : w.heap[b]? = some (.cells #[.slice A1 d.secs.length c1, .slice A2 d.opn.length c2, .int .i64 d.fail, .int .i64 d.reads] 54 (0, 0))) (h1 : OwAt secC 64 76 A1 c1 d.secs w) (h2 : OwAt wrC 65 78 A2 c2 d.opn w) (ho : d.ok) : DiskAt (fun k => k = b ∨ blk A1 = some k ∨ blk A2 = some k) b d w :=
  ⟨A1, c1, A2, c2, hb, h1, h2, fun _ => Iff.rfl, ho⟩
theorem DiskAt.mkS {S : Nat → Prop} {b : Nat} {A1 A2 : Option Addr} {c1 c2 : Nat} {d : GDisk} {w : World} (hS : ∀ k, S k ↔ k = b ∨ blk A1 = some k ∨ blk A2 = some k) (hb : w.heap[b]? = some (.cells #[.slice A1 d.secs.length c1, .slice A2 d.opn.length c2, .int .i64 d.fail, .int .i64 d.reads] 54 (0, 0))) (h1 : OwAt secC 64 76 A1 c1 d.secs w) (h2 : OwAt wrC 65 78 A2 c2 d.opn w) (ho : d.ok) : DiskAt S b d w :=
  ⟨A1, c1, A2, c2, hb, h1, h2, hS, ho⟩
namespace GDisk
theorem tick_ok {d : GDisk} (h : d.ok) : d.tick.ok := by
  obtain ⟨h1, h2, h3, h4, h5, h6⟩ := h
  refine ⟨h1, h2, ?_, ?_, h5, h6⟩ <;> (simp only [tick, tickF]; split <;> omega)
theorem put_len (secs : List (List UInt8)) (x : Int × List UInt8) : (put secs x).length = secs.length := by simp [put]
theorem puts_len (l : List (Int × List UInt8)) (secs : List (List UInt8)) : (l.foldl put secs).length = secs.length := by
  induction l generalizing secs with
  | nil => rfl
  | cons x l ih => rw [List.foldl_cons, ih, put_len]
theorem puts_all {l : List (Int × List UInt8)} : ∀ {secs : List (List UInt8)}, (∀ x ∈ l, x.2.length = 64) → (∀ s ∈ secs, s.length = 64) → ∀ s ∈ l.foldl put secs, s.length = 64 := by
  induction l with
  | nil => intro secs _ h; exact h
  | cons x l ih =>
    intro secs hl h
    rw [List.foldl_cons]
    refine ih (fun y hy => hl y (List.mem_cons_of_mem _ hy)) fun s hs => ?_
    rcases List.mem_or_eq_of_mem_set hs with hs | rfl
    · exact h s hs
    · exact hl x (List.mem_cons_self ..)
section
variable {d : GDisk} {a : Int} {l : List UInt8}
theorem read_no (h : ¬ d.has a) : d.readT a = [] ∧ d.readE a = 1 ∧ d.readD a = d := ⟨if_neg fun k => h k.1, if_pos h, if_pos h⟩
theorem read_io (h : d.has a) (hf : d.fail = 1) : d.readT a = [] ∧ d.readE a = 18 ∧ d.readD a = ⟨d.secs, d.opn, tickF d.fail, IntKind.i64.wrap (d.reads + 1)⟩ := ⟨if_neg fun k => k.2 hf, by rw [readE, if_neg (fun q => q h), if_pos hf], if_neg (fun q => q h)⟩
theorem read_ok (h : d.has a) (hf : ¬ d.fail = 1) : d.readT a = d.at_ a ∧ d.readE a = 0 ∧ d.readD a = ⟨d.secs, d.opn, tickF d.fail, IntKind.i64.wrap (d.reads + 1)⟩ := ⟨if_pos ⟨h, hf⟩, by rw [readE, if_neg (fun q => q h), if_neg hf], if_neg (fun q => q h)⟩
theorem write_no (h : ¬ (d.has a ∧ l.length = 64)) : d.writeE a l = 1 ∧ d.writeD a l = d := ⟨if_pos h, if_pos h⟩
theorem write_io (h : d.has a ∧ l.length = 64) (hf : d.fail = 1) : d.writeE a l = 18 ∧ d.writeD a l = ⟨d.secs, d.opn, tickF d.fail, d.reads⟩ := ⟨by rw [writeE, if_neg (fun q => q h), if_pos hf], by rw [writeD, if_neg (fun q => q h), if_pos hf]; rfl⟩
theorem write_ok (h : d.has a ∧ l.length = 64) (hf : ¬ d.fail = 1) : d.writeE a l = 0 ∧ d.writeD a l = ⟨d.secs, d.opn ++ [(a, l)], tickF d.fail, d.reads⟩ := ⟨by rw [writeE, if_neg (fun q => q h), if_neg hf], by rw [writeD, if_neg (fun q => q h), if_neg hf]⟩
theorem flush_io (hf : d.fail = 1) : d.flushE = 18 ∧ d.flushD = ⟨d.secs, d.opn, tickF d.fail, d.reads⟩ := ⟨if_pos hf, if_pos hf⟩
theorem flush_ok (hf : ¬ d.fail = 1) : d.flushE = 0 ∧ d.flushD = ⟨d.opn.foldl put d.secs, [], tickF d.fail, d.reads⟩ := ⟨if_neg hf, if_neg hf⟩
theorem ok_of {secs : List (List UInt8)} {opn : List (Int × List UInt8)} {f r r' : Int} (h : (⟨secs, opn, f, r⟩ : GDisk).ok) : (⟨secs, opn, tickF f, r'⟩ : GDisk).ok := tick_ok (d := ⟨secs, opn, f, r'⟩) h
theorem write_dok (h : d.ok) (hw : d.has a ∧ l.length = 64) (hm : d.opn.length < 1000000) (f r : Int) (hf : 0 ≤ f ∧ f ≤ 9223372036854775807) : (⟨d.secs, d.opn ++ [(a, l)], f, r⟩ : GDisk).ok := by
  obtain ⟨h1, h2, h3, h4, h5, h6⟩ := h
  refine ⟨h1, fun x hx => ?_, hf.1, hf.2, h5, by simp only [List.length_append, List.length_cons, List.length_nil]; omega⟩
  rcases List.mem_append.1 hx with hx | hx
  · exact h2 x hx
  · rw [List.mem_singleton] at hx; subst hx; exact ⟨hw.2, hw.1.1, hw.1.2⟩
theorem flush_dok (h : d.ok) (f r : Int) (hf : 0 ≤ f ∧ f ≤ 9223372036854775807) : (⟨d.opn.foldl put d.secs, [], f, r⟩ : GDisk).ok := by
  obtain ⟨h1, h2, h3, h4, h5, h6⟩ := h
  exact ⟨puts_all (fun x hx => (h2 x hx).1) h1, by simp, hf.1, hf.2, by rw [puts_len]; exact h5, by simp⟩
theorem tickF_rng {f : Int} (h : 0 ≤ f ∧ f ≤ 9223372036854775807) : 0 ≤ tickF f ∧ tickF f ≤ 9223372036854775807 := by unfold tickF; split <;> omega
theorem over_len {s : List UInt8} {x : Int × List UInt8} (hs : s.length = 64) (hx : x.2.length = 64) : (over a s x).length = 64 := by unfold over; split <;> assumption
theorem overs_len : ∀ {o : List (Int × List UInt8)} {s : List UInt8}, (∀ x ∈ o, x.2.length = 64) → s.length = 64 → (o.foldl (over a) s).length = 64
  | [], _, _, h => h
  | x :: o, s, ho, h => by
    rw [List.foldl_cons]; exact overs_len (fun y hy => ho y (List.mem_cons_of_mem _ hy)) (over_len h (ho x (List.mem_cons_self ..)))
theorem over_succ {o : List (Int × List UInt8)} {s : List UInt8} {i : Int} {q : Int × List UInt8} (h0 : 0 ≤ i) (hq : o[i.toNat]? = some q) : (o.take (i + 1).toNat).foldl (over a) s = over a ((o.take i.toNat).foldl (over a) s) q := by
  rw [take_succI h0 hq, List.foldl_append]; rfl
theorem ov_t {o : List (Int × List UInt8)} {s : List UInt8} {i : Int} {q : Int × List UInt8} (h0 : 0 ≤ i) (hq : o[i.toNat]? = some q) (h : q.1 = a) : q.2 = (o.take (i + 1).toNat).foldl (over a) s := by
  rw [over_succ h0 hq, over, if_pos h]
theorem ov_f {o : List (Int × List UInt8)} {s : List UInt8} {i : Int} {q : Int × List UInt8} (h0 : 0 ≤ i) (hq : o[i.toNat]? = some q) (h : ¬ q.1 = a) : (o.take i.toNat).foldl (over a) s = (o.take (i + 1).toNat).foldl (over a) s := by
  rw [over_succ h0 hq, over, if_neg h]
theorem put_succ {o : List (Int × List UInt8)} {secs : List (List UInt8)} {i : Int} {q : Int × List UInt8} (h0 : 0 ≤ i) (hq : o[i.toNat]? = some q) : ((o.take i.toNat).foldl put secs).set q.1.toNat q.2 = (o.take (i + 1).toNat).foldl put secs := by
  rw [take_succI h0 hq, List.foldl_append]; rfl
end
end GDisk
theorem SlAt.of_sec {b : Nat} {l : List UInt8} {T : TypeId} {fz : Nat × Nat} {w : World} (hb : w.heap[b]? = some (.cells (Value.cells (secV l)) T fz)) (hl : l.length = 64) : SlAt u8C 1 5 (some ⟨b, 0, none⟩) l w := by
  refine .inr ⟨b, 0, _, T, fz, rfl, hb, by simp [Value.cells, secC, hl], fun i r hr => ?_⟩
  have hi : i < l.length := (List.getElem?_eq_some_iff.1 hr).1
  have e : (Value.cells (secV l)).toList = l.flatMap u8C := by rw [← secC_bytes hl]; rfl
  rw [e, u8C_flat]
  simp only [Nat.zero_add, Nat.mul_one, Lib.byteCells]
  rw [List.drop_eq_getElem_cons (by simpa using hi)]
  have : l[i] = r := by rw [List.getElem?_eq_getElem hi] at hr; exact Option.some.inj hr
  simp [this]
end Go.Proofs.YtnkkbeafcfjkmaaGreatDoor
namespace Go.Proofs.YtnkkbeafcfjkmaaGreatDoor
open Go.RowKit
set_option linter.unusedVariables false
set_option linter.unusedSimpArgs false
set_option maxRecDepth 100000 in
set_option maxHeartbeats 4000000 in
theorem dLen_b {b n c : Nat} {A : Option Addr} {f : Int} {s2 v4 : Value} {w : World} (hb : w.heap[b]? = some (.cells #[.slice A n c, s2, .int .i64 f, v4] 54 (0, 0))) : Calls Tryz.prog 27 #[.pointer (some ⟨b, 0, none⟩)] w fun e w' => e = .returned (.int .i64 (n : Int)) ∧ Adds w w' := by
  have K : Keeps (fun _ => False) w w := Keeps.refl _ w
  refine Calls.start Tryz.func27 rfl (by kernel_rfl) ?_
  refine WC.seq ?_
  refine WC.region ?_
  refine WL.op (d := 2) (.int .i64 0) (k := ?_)
  refine WL.nil ?_
  refine WX.seqN ?_
  refine WC.seq ?_
  refine WC.seq ?_
  refine WC.region ?_
  refine WL.op (d := 3) (.pointer (some ⟨b, 0, none⟩)) (k := ?_)
  refine WL.op (d := 4) (.bool false) (k := ?_)
  refine WL.nil ?_
  refine WX.seqN ?_
  refine WC.condF (k := ?_)
  refine WC.skip ?_
  refine WX.seqN ?_
  refine WC.seq ?_
  refine WC.region ?_
  refine WL.op (d := 5) (.pointer (some ⟨b, 0, none⟩)) (k := ?_)
  refine WL.op (d := 6) (.pointer (some ⟨b, 0, none⟩)) (k := ?_)
  refine WL.op (d := 7) (.pointer (some ⟨b, 0, none⟩)) (k := ?_)
  refine WL.load (v := .slice A n c) (ld1 (T := 51) (i := 0) hb) (k := ?_)
  refine WL.op (d := 9) (.int .i64 (n : Int)) (k := ?_)
  refine WL.op (d := 2) (.int .i64 (n : Int)) (k := ?_)
  refine WL.nil ?_
  refine WX.seqN ?_
  refine WC.ret ?_
  refine WX.ret (rs := [.tmp 2]) [.int .i64 (n : Int)] (.int .i64 (n : Int)) ⟨(by kernel_rfl), trivial⟩ (k := ?_)
  exact ⟨rfl, K⟩
set_option maxRecDepth 100000 in
set_option maxHeartbeats 4000000 in
theorem dThere_b {a : Int} {b n c : Nat} {A : Option Addr} {f : Int} {s2 v4 : Value} {w : World} (hb : w.heap[b]? = some (.cells #[.slice A n c, s2, .int .i64 f, v4] 54 (0, 0))) : Calls Tryz.prog 50 #[.pointer (some ⟨b, 0, none⟩), .int .i64 a] w fun e w' => e = .returned (.bool (decide (0 ≤ a ∧ a < (n : Int)))) ∧ Adds w w' := by
  have K : Keeps (fun _ => False) w w := Keeps.refl _ w
  refine Calls.start Tryz.func50 rfl (by kernel_rfl) ?_
  refine WC.seq ?_
  refine WC.region ?_
  refine WL.op (d := 4) (.bool false) (k := ?_)
  refine WL.nil ?_
  refine WX.seqN ?_
  refine WC.seq ?_
  refine WC.region ?_
  refine WL.op (d := 5) (.int .i64 a) (k := ?_)
  refine WL.op (d := 6) (.bool (decide (a ≥ 0))) (k := ?_)
  refine WL.op (d := 7) (.bool (decide (a ≥ 0))) (k := ?_)
  refine bsplit (decide (a ≥ 0)) (fun h1 => ?_) (fun h1 => ?_)
  · have ph1 := of_decide_eq_true h1
    refine WL.rw (t := 7) (v := .bool true) (congrArg Value.bool h1) (k := ?_)
    refine WL.op (d := 8) (.int .i64 a) (k := ?_)
    refine WL.op (d := 9) (.pointer (some ⟨b, 0, none⟩)) (k := ?_)
    refine WL.callG (d := 10) (f := 27) (args := #[.pointer (some ⟨b, 0, none⟩)]) (dLen_b hb) (k := fun e_ w2 h_ => ⟨.int .i64 (n : Int), h_.1, ?_⟩)
    have k3 := h_.2; clear h_
    replace hb := k3.heap hb id
    replace K := K.trans (k3.any _)
    refine WL.op (d := 11) (.bool (decide (a < (n : Int)))) (k := ?_)
    refine WL.op (d := 12) (.bool (decide (a < (n : Int)))) (k := ?_)
    refine WL.op (d := 4) (.bool (decide (a < (n : Int)))) (k := ?_)
    refine WL.nil ?_
    refine WX.seqN ?_
    refine WC.ret ?_
    refine WX.ret (rs := [.tmp 4]) [.bool (decide (a < (n : Int)))] (.bool (decide (a < (n : Int)))) ⟨(by kernel_rfl), trivial⟩ (k := ?_)
    exact ⟨ret_bool (decide_eq_decide.2 ⟨fun h_ => ⟨by omega, h_⟩, fun h_ => h_.2⟩), K⟩
  · have ph1 := of_decide_eq_false h1
    refine WL.rw (t := 7) (v := .bool false) (congrArg Value.bool h1) (k := ?_)
    refine WL.skip (d := 8) (k := ?_)
    refine WL.skip (d := 9) (k := ?_)
    refine WL.skip (d := 10) (k := ?_)
    refine WL.skip (d := 11) (k := ?_)
    refine WL.op (d := 12) (.bool false) (k := ?_)
    refine WL.op (d := 4) (.bool false) (k := ?_)
    refine WL.nil ?_
    refine WX.seqN ?_
    refine WC.ret ?_
    refine WX.ret (rs := [.tmp 4]) [.bool false] (.bool false) ⟨(by kernel_rfl), trivial⟩ (k := ?_)
    exact ⟨ret_bool (decide_eq_false (fun h_ => by omega)).symm, K⟩
set_option maxRecDepth 100000 in
set_option maxHeartbeats 4000000 in
theorem dFails_b {s1 : Value} {b : Nat} {f : Int} {s2 v4 : Value} {w : World} (hb : w.heap[b]? = some (.cells #[s1, s2, .int .i64 f, v4] 54 (0, 0))) (hf : 0 ≤ f ∧ f ≤ 9223372036854775807) : Calls Tryz.prog 51 #[.pointer (some ⟨b, 0, none⟩)] w fun e w' => e = .returned (.bool (decide (f = 1))) ∧ w'.heap[b]? = some (.cells #[s1, s2, .int .i64 (tickF f), v4] 54 (0, 0)) ∧ Keeps (fun k => k = b) w w' := by
  have K : Keeps (fun k => k = b) w w := Keeps.refl _ w
  refine Calls.start Tryz.func51 rfl (by kernel_rfl) ?_
  refine WC.seq ?_
  refine WC.region ?_
  refine WL.op (d := 2) (.bool false) (k := ?_)
  refine WL.nil ?_
  refine WX.seqN ?_
  refine WC.seq ?_
  refine WC.seq ?_
  refine WC.region ?_
  refine WL.op (d := 3) (.pointer (some ⟨b, 0, none⟩)) (k := ?_)
  refine WL.op (d := 4) (.pointer (some ⟨b, 0, none⟩)) (k := ?_)
  refine WL.op (d := 5) (.pointer (some ⟨b, 2, none⟩)) (k := ?_)
  refine WL.load (v := .int .i64 f) (ld1 (T := 3) (i := 2) hb) (k := ?_)
  refine WL.op (d := 7) (.bool (f == 0)) (k := ?_)
  refine WL.nil ?_
  refine WX.seqN ?_
  refine WC.cond (b := f == 0) (ht := fun h1 => ?_) (hf := fun h1 => ?_)
  · have ph1 := eq_of_beq h1
    refine WC.seq ?_
    refine WC.region ?_
    refine WL.op (d := 2) (.bool false) (k := ?_)
    refine WL.nil ?_
    refine WX.seqN ?_
    refine WC.ret ?_
    refine WX.seqR ?_
    refine WX.ret (rs := [.tmp 2]) [.bool false] (.bool false) ⟨(by kernel_rfl), trivial⟩ (k := ?_)
    have q_ : tickF f = f := by rw [ph1]; rfl
    have q2_ : ¬ f = 1 := by omega
    exact ⟨ret_bool (decide_eq_false q2_).symm, by rw [q_]; exact hb, K⟩
  · have ph1 := ne_of_beq_false h1
    refine WC.skip ?_
    refine WX.seqN ?_
    refine WC.seq ?_
    refine WC.region ?_
    refine WL.op (d := 8) (.pointer (some ⟨b, 0, none⟩)) (k := ?_)
    refine WL.op (d := 9) (.pointer (some ⟨b, 0, none⟩)) (k := ?_)
    refine WL.op (d := 10) (.pointer (some ⟨b, 2, none⟩)) (k := ?_)
    refine WL.load (v := .int .i64 f) (ld1 (T := 3) (i := 2) hb) (k := ?_)
    refine WL.opE (d := 12) (.int .i64 (IntKind.i64.wrap (f - 1))) (v := .int .i64 (f - 1)) (congrArg (Value.int .i64) (IntWalk.i64_in _ (by omega))) (k := ?_)
    refine WL.op (d := 13) (.pointer (some ⟨b, 0, none⟩)) (k := ?_)
    refine WL.op (d := 14) (.pointer (some ⟨b, 2, none⟩)) (k := ?_)
    refine WL.store (v := .int .i64 (f - 1)) (i := 2) (cs' := #[s1, s2, .int .i64 (f - 1), v4]) hb (k := fun w2 hb3 k4 => ?_)
    replace K := K.trans' k4 (fun i hi e => e)
    clear hb
    refine WL.nil ?_
    refine WX.seqN ?_
    refine WC.seq ?_
    refine WC.region ?_
    refine WL.op (d := 15) (.pointer (some ⟨b, 0, none⟩)) (k := ?_)
    refine WL.op (d := 16) (.pointer (some ⟨b, 0, none⟩)) (k := ?_)
    refine WL.op (d := 17) (.pointer (some ⟨b, 2, none⟩)) (k := ?_)
    refine WL.load (v := .int .i64 (f - 1)) (ld1 (T := 3) (i := 2) hb3) (k := ?_)
    refine WL.op (d := 19) (.bool ((f - 1) == 0)) (k := ?_)
    refine WL.op (d := 2) (.bool ((f - 1) == 0)) (k := ?_)
    refine WL.nil ?_
    refine WX.seqN ?_
    refine WC.ret ?_
    refine WX.ret (rs := [.tmp 2]) [.bool ((f - 1) == 0)] (.bool ((f - 1) == 0)) ⟨(by kernel_rfl), trivial⟩ (k := ?_)
    have q_ : tickF f = f - 1 := if_neg ph1
    exact ⟨ret_bool (by rw [Bool.eq_iff_iff, beq_iff_eq, decide_eq_true_eq]; omega), by rw [q_]; exact hb3, K⟩
end Go.Proofs.YtnkkbeafcfjkmaaGreatDoor
namespace Go.Proofs.YtnkkbeafcfjkmaaGreatDoor
open Go.RowKit
set_option linter.unusedVariables false
set_option linter.unusedSimpArgs false
namespace GDisk
theorem at_eq {d : GDisk} {a : Int} {i : Int} {r : List UInt8} (hr : d.secs[a.toNat]? = some r) (h : d.opn.length ≤ i) : List.foldl (over a) r (List.take i.toNat d.opn) = d.at_ a := by
  rw [take_endI h, at_, List.getD_eq_getElem?_getD, hr]; rfl
end GDisk
theorem secC_zero (l : List UInt8) (h : ∀ i, l.getD i 0 = 0) : secC l = List.replicate 64 (Value.int .u8 0) := by
  simp only [secC, h]; rfl
theorem getD_zeros (i : Nat) : (List.replicate 64 (0 : UInt8)).getD i 0 = 0 := by
  simp only [List.getD, List.getElem?_replicate]; split <;> rfl
theorem made_secs (n : Nat) : (madeCells (secV []).cells (n * 64)).toList = (List.replicate n (List.replicate 64 (0 : UInt8))).flatMap secC := by
  have h1 : (madeCells (secV []).cells (n * 64)).toList = List.replicate (n * 64) (Value.int .u8 0) := by
    rw [List.eq_replicate_iff]
    refine ⟨by simp [madeCells], fun b hb => ?_⟩
    have hz : (secV []).cells.toList = List.replicate 64 (Value.int .u8 0) := secC_zero [] (fun i => by simp)
    simp only [madeCells, Array.toList_map, List.mem_map] at hb
    obtain ⟨i, _, rfl⟩ := hb
    have hs : (secV []).cells.size = 64 := by rw [← Array.length_toList, hz]; simp
    have hm : i % (secV []).cells.size < (secV []).cells.size := Nat.mod_lt _ (by rw [hs]; decide)
    rw [getElem!_pos (secV []).cells _ hm, ← Array.getElem_toList hm]
    have hmem : (secV []).cells.toList[i % (secV []).cells.size]'hm ∈ (secV []).cells.toList := List.getElem_mem _
    generalize (secV []).cells.toList[i % (secV []).cells.size]'hm = v at hmem ⊢
    rw [hz] at hmem
    exact List.eq_of_mem_replicate hmem
  rw [h1]
  clear h1
  induction n with
  | zero => rfl
  | succ n ih =>
    rw [List.replicate_succ, List.flatMap_cons, secC_zero _ getD_zeros, ← ih, ← List.replicate_append_replicate.symm, show (n + 1) * 64 = 64 + n * 64 by omega]
theorem run_makeSecs (n : Nat) (hn : n ≤ 1024) (w : World) : ∃ b w', w.heap.size ≤ b ∧ (Instr.makeSlice 51 (.int .i64 (n : Int)) (.int .i64 (n : Int))).run Tryz.prog w = .ok (.slice (some ⟨b, 0, none⟩) n n) w' ∧ OwAt secC 64 76 (some ⟨b, 0, none⟩) n (List.replicate n (List.replicate 64 (0 : UInt8))) w' ∧ Adds w w' := by
  obtain ⟨i, z, h1, h2, h3, h4, h5⟩ := ekSec.info
  have hz : z = secV [] := by
    have : (Tryz.prog.info? 76).map (fun i => i.zero) = some (some (secV [])) := by kernel_rfl
    rw [h1] at this
    simp only [Option.map_some, Option.some.injEq] at this
    rw [h2] at this; exact Option.some.inj this
  subst hz
  obtain ⟨w', hr, ho, hg⟩ := run_make_full (P := Tryz.prog) (w := w) 0 51 76 i _ 64 Tryz.underlying51 h1 h2 h3 .i64 .i64 n (by
    have := Nat.mul_le_mul h5 hn; omega) (by unfold maxLen; omega) (Nat.zero_le _)
  refine ⟨w.heap.size, w', Nat.le_refl _, hr, ?_, (Keeps.refl _ w).grown hg (fun _ h => by cases h)⟩
  unfold OwAt
  rw [← made_secs, List.length_replicate]
  exact ho
section
variable {P : Program} {ops : Array Oper} {n : Md} {Q : Exit → Act → World → Prop} {rest : List Oper} {fr : Fr} {w : World}
theorem WL.makeS {T : TypeId} {x y : Operand} {vx vy v : Value} {d : Nat} {w' : World} {ty : TypeId} {ps : String} {af : Array Edge} {g : Option (Nat × Bool)} (hr : (Instr.makeSlice T vx vy).run P w = .ok v w')
    (hw : want ops fr ⟨some d, .makeSlice T x y, ty, ps, af, g⟩ = some true := by kernel_rfl) (hx : ev fr x = some vx := by kernel_rfl) (hy : ev fr y = some vy := by kernel_rfl) (hn : Nat.blt d n.n = true := by kernel_rfl)
    (k : WL P ops n Q rest ((d, v) :: fr) w') : WL P ops n Q (⟨some d, .makeSlice T x y, ty, ps, af, g⟩ :: rest) fr w :=
  WL.wanted hw fun a ha K hK => by
    unfold Oper.wp
    simp only [execOp, ha.eval hx, ha.eval hy, Sem.run_bind, Sem.run_pure, Result.andThen_ok, hr, Oper.upon_value]
    exact hK _ _ (k _ (ha.put hn _))
end
theorem run_copyWr {b : Nat} {a : Int} {l0 l : List UInt8} {T ty : TypeId} {w : World} (hb : w.heap[b]? = some (.cells (Value.cells (wrV (a, l0))) T (0, 0))) (hl : l.length = 64) :
    ∃ w', (Builtin.copy_ #[61, 9] ty #[.slice (some ⟨b, 1, none⟩) 64 64, .string ⟨l.toArray⟩]).run Tryz.prog w = .ok (.int .i64 64) w' ∧
      w'.heap[b]? = some (.cells (Value.cells (wrV (a, l))) T (0, 0)) ∧ Keeps (fun k => k = b) w w' := by
  have hT : (Lib.byteCells l).length = 64 := by simp [Lib.byteCells, hl]
  have hsz0 : (Value.cells (wrV (a, l0))).size = 65 := by simp [Value.cells, wrC, secC]
  obtain ⟨w', hr, hb', hk⟩ := run_storeCells (P := Tryz.prog) (b := b) (i := 1) (Lib.byteCells l) 0 w _ hb (by rw [hT, hsz0]; decide) (List.all_eq_true.2 fun u hu => by simp only [Lib.byteCells, List.mem_map] at hu; obtain ⟨x, _, rfl⟩ := hu; rfl)
  refine ⟨w', ?_, ?_, hk⟩
  · have hsz : (⟨l.toArray⟩ : ByteArray).size = 64 := hl
    obtain ⟨i0, hi, hz0, hz1, hz2⟩ := info_parts infoByte
    have htk : List.take 64 (List.map (fun c : UInt8 => Value.int IntKind.u8 (c.toNat : Int)) l) = Lib.byteCells l := by
      rw [List.take_of_length_le (by simp [hl])]; rfl
    simp [Builtin.copy_, run_underlying Tryz.underlying61, Builtin.lenOf, Builtin.firstCells, sizeOf, typeInfo, hi, hz1, hsz]
    rw [htk, hr]
    simp [Result.andThen, goInt]
  · rw [hb']
    congr 2
    have e : secC l = Lib.byteCells l := by rw [secC_bytes hl, u8C_flat]
    apply Array.ext'
    simp only [repl, Value.cells, wrC, e, List.toList_toArray, hT]
    simp [secC, hT]
end Go.Proofs.YtnkkbeafcfjkmaaGreatDoor
namespace Go.Proofs.YtnkkbeafcfjkmaaGreatDoor
open Go.RowKit
set_option linter.unusedVariables false
set_option linter.unusedSimpArgs false
set_option maxRecDepth 100000 in
set_option maxHeartbeats 4000000 in
theorem dRead_c {a : Int} {S : Nat → Prop} {b : Nat} {d : GDisk} {w : World} (hd : DiskAt S b d w) : Calls Tryz.prog 38 #[.pointer (some ⟨b, 0, none⟩), .int .i64 a] w fun e w' => e = .returned (.tuple #[.string ⟨(d.readT a).toArray⟩, .int .i64 (d.readE a)]) ∧ DiskAt S b (d.readD a) w' ∧ Keeps S w w' := by
  have K : Keeps S w w := Keeps.refl _ w
  obtain ⟨A1, c1, A2, c2, hb, h1, h2, hS, ho⟩ := hd
  have ho2 := ho
  obtain ⟨os_, ow_, of0_, of1_, on_, om_⟩ := ho2
  refine Calls.start Tryz.func38 rfl (by kernel_rfl) ?_
  refine WC.seq ?_
  refine WC.region ?_
  refine WL.op (d := 4) (.string ⟨#[]⟩) (k := ?_)
  refine WL.op (d := 5) (.int .i64 0) (k := ?_)
  refine WL.nil ?_
  refine WX.seqN ?_
  refine WC.seq ?_
  refine WC.seq ?_
  refine WC.region ?_
  refine WL.op (d := 9) (.pointer (some ⟨b, 0, none⟩)) (k := ?_)
  refine WL.op (d := 10) (.int .i64 a) (k := ?_)
  refine WL.callG (d := 11) (f := 50) (args := #[.pointer (some ⟨b, 0, none⟩), .int .i64 a]) (dThere_b (a := a) hb) (k := fun e_ w1 h_ => ⟨.bool (decide (0 ≤ a ∧ a < (d.secs.length : Int))), h_.1, ?_⟩)
  have k2 := h_.2; clear h_
  replace hb := k2.heap hb id
  replace h1 := h1.adds k2
  replace h2 := h2.adds k2
  replace K := K.trans (k2.any _)
  refine WL.op (d := 12) (.bool (!(decide (0 ≤ a ∧ a < (d.secs.length : Int))))) (k := ?_)
  refine WL.nil ?_
  refine WX.seqN ?_
  refine WC.cond (b := !(decide (0 ≤ a ∧ a < (d.secs.length : Int)))) (ht := fun h3 => ?_) (hf := fun h3 => ?_)
  · have h4 : (decide (0 ≤ a ∧ a < (d.secs.length : Int))) = false := Bool.not_inj (y := false) h3
    have ph4 := of_decide_eq_false h4
    refine WC.seq ?_
    refine WC.region ?_
    refine WL.op (d := 4) (.string ⟨#[]⟩) (k := ?_)
    refine WL.op (d := 5) (.int .i64 1) (k := ?_)
    refine WL.nil ?_
    refine WX.seqN ?_
    refine WC.ret ?_
    refine WX.seqR ?_
    refine WX.ret (rs := [.tmp 4, .tmp 5]) [.string ⟨#[]⟩, .int .i64 1] (.tuple #[.string ⟨#[]⟩, .int .i64 1]) ⟨(by kernel_rfl), (by kernel_rfl), trivial⟩ (k := ?_)
    obtain ⟨e1_, e2_, e3_⟩ := GDisk.read_no (d := d) (a := a) ph4
    exact ⟨by rw [e1_, e2_], by rw [e3_]; exact DiskAt.mkS hS hb h1 h2 ho, K⟩
  · have h5 : (decide (0 ≤ a ∧ a < (d.secs.length : Int))) = true := Bool.not_inj (y := true) h3
    have ph5 := of_decide_eq_true h5
    refine WC.skip ?_
    refine WX.seqN ?_
    refine WC.seq ?_
    refine WC.region ?_
    refine WL.op (d := 13) (.pointer (some ⟨b, 0, none⟩)) (k := ?_)
    refine WL.op (d := 14) (.pointer (some ⟨b, 0, none⟩)) (k := ?_)
    refine WL.op (d := 15) (.pointer (some ⟨b, 3, none⟩)) (k := ?_)
    refine WL.load (v := .int .i64 d.reads) (ld1 (T := 3) (i := 3) hb) (k := ?_)
    refine WL.op (d := 17) (.int .i64 (IntKind.i64.wrap (d.reads + 1))) (k := ?_)
    refine WL.op (d := 18) (.pointer (some ⟨b, 0, none⟩)) (k := ?_)
    refine WL.op (d := 19) (.pointer (some ⟨b, 3, none⟩)) (k := ?_)
    refine WL.store (v := .int .i64 (IntKind.i64.wrap (d.reads + 1))) (i := 3) (cs' := #[.slice A1 d.secs.length c1, .slice A2 d.opn.length c2, .int .i64 d.fail, .int .i64 (IntKind.i64.wrap (d.reads + 1))]) hb (k := fun w6 hb7 k8 => ?_)
    replace h1 := h1.keeps k8 (fun i hi e => (h1.offT hb (by decide)) (e ▸ hi))
    replace h2 := h2.keeps k8 (fun i hi e => (h2.offT hb (by decide)) (e ▸ hi))
    replace K := K.trans' k8 (fun i hi e => (hS i).2 (.inl e))
    clear hb
    refine WL.nil ?_
    refine WX.seqN ?_
    refine WC.seq ?_
    refine WC.seq ?_
    refine WC.region ?_
    refine WL.op (d := 20) (.pointer (some ⟨b, 0, none⟩)) (k := ?_)
    refine WL.callG (d := 21) (f := 51) (args := #[.pointer (some ⟨b, 0, none⟩)]) (dFails_b hb7 (by omega)) (k := fun e_ w9 h_ => ?_)
    obtain ⟨rfl, hb10, k11⟩ := h_
    refine ⟨_, rfl, ?_⟩
    replace h1 := h1.keeps k11 (fun i hi e => (h1.offT hb7 (by decide)) (e ▸ hi))
    replace h2 := h2.keeps k11 (fun i hi e => (h2.offT hb7 (by decide)) (e ▸ hi))
    replace K := K.trans' k11 (fun i hi e => (hS i).2 (.inl e))
    clear hb7
    refine WL.nil ?_
    refine WX.seqN ?_
    refine WC.cond (b := decide (d.fail = 1)) (ht := fun h12 => ?_) (hf := fun h12 => ?_)
    · have ph12 := of_decide_eq_true h12
      refine WC.seq ?_
      refine WC.region ?_
      refine WL.op (d := 4) (.string ⟨#[]⟩) (k := ?_)
      refine WL.op (d := 5) (.int .i64 18) (k := ?_)
      refine WL.nil ?_
      refine WX.seqN ?_
      refine WC.ret ?_
      refine WX.seqR ?_
      refine WX.ret (rs := [.tmp 4, .tmp 5]) [.string ⟨#[]⟩, .int .i64 18] (.tuple #[.string ⟨#[]⟩, .int .i64 18]) ⟨(by kernel_rfl), (by kernel_rfl), trivial⟩ (k := ?_)
      obtain ⟨e1_, e2_, e3_⟩ := GDisk.read_io (d := d) (a := a) ph5 ph12
      exact ⟨by rw [e1_, e2_], by rw [e3_]; exact DiskAt.mkS (d := ⟨d.secs, d.opn, tickF d.fail, IntKind.i64.wrap (d.reads + 1)⟩) hS hb10 h1 h2 (GDisk.ok_of ho), K⟩
    · have ph12 := of_decide_eq_false h12
      refine WC.skip ?_
      refine WX.seqN ?_
      refine WC.seq ?_
      refine WC.region ?_
      refine WL.op (d := 22) (.pointer (some ⟨b, 0, none⟩)) (k := ?_)
      refine WL.op (d := 23) (.pointer (some ⟨b, 0, none⟩)) (k := ?_)
      refine WL.op (d := 24) (.pointer (some ⟨b, 0, none⟩)) (k := ?_)
      refine WL.load (v := .slice A1 d.secs.length c1) (ld1 (T := 51) (i := 0) hb10) (k := ?_)
      refine WL.op (d := 26) (.int .i64 a) (k := ?_)
      obtain ⟨b13, o14, r15, hr16, hA17, he18⟩ := SlAt.at (h1.sl ekSec) (i := a) (by omega) (by omega)
      refine WL.rw (t := 25) (v := .slice (some ⟨b13, o14, none⟩) d.secs.length c1) (congrArg (fun a => Value.slice a d.secs.length c1) hA17) (k := ?_)
      refine WL.idx (T := 51) (E := 76) (m := 64) (b := b13) (o := o14) (len := d.secs.length) (cap := c1) (i := a) (kk := .i64) (d := 27) (by omega) (by omega) (k := ?_)
      refine WL.rw (t := 25) (v := .slice A1 d.secs.length c1) (congrArg (fun a => Value.slice a d.secs.length c1) (Eq.symm hA17)) (k := ?_)
      refine WL.load (v := secV r15) (he18.ldW (T := 76)) (k := ?_)
      refine WL.new (d := 6) (T := 76) (Value.cells (secV [])) (k := fun b19 w20 g21 hb22 k23 => ?_)
      have z24 := Nat.le_trans K.size g21
      have n25 : b ≠ b19 := Nat.ne_of_lt (Nat.lt_of_lt_of_le (lt_of_heap hb10) g21)
      have n26 := OwAt.off_new h1 g21
      have n27 := OwAt.off_new h2 g21
      replace hb10 := k23.heap hb10 id
      replace h1 := h1.adds k23
      replace h2 := h2.adds k23
      replace he18 := he18.adds k23
      replace K := K.trans (k23.any _)
      refine WL.store (v := secV r15) (i := 0) (cs' := (Value.cells (secV r15))) hb22 (k := fun w28 hb29 k30 => ?_)
      replace hb10 := k30.heap hb10 n25
      replace h1 := h1.keeps k30 (fun i hi e => (n26) (e ▸ hi))
      replace h2 := h2.keeps k30 (fun i hi e => (n27) (e ▸ hi))
      replace K := K.trans' k30 (fun i hi e => absurd (e ▸ hi) (Nat.not_lt.2 z24))
      clear hb22
      refine WL.nil ?_
      refine WX.seqN ?_
      refine WC.seq ?_
      refine WC.seq ?_
      refine WC.region ?_
      refine WL.op (d := 29) (.pointer (some ⟨b, 0, none⟩)) (k := ?_)
      refine WL.op (d := 30) (.pointer (some ⟨b, 0, none⟩)) (k := ?_)
      refine WL.op (d := 31) (.pointer (some ⟨b, 1, none⟩)) (k := ?_)
      refine WL.load (v := .slice A2 d.opn.length c2) (ld1 (T := 52) (i := 1) hb10) (k := ?_)
      refine WL.op (d := 33) (.int .i64 (d.opn.length : Int)) (k := ?_)
      refine WL.op (d := 34) (.int .i64 0) (k := ?_)
      refine WL.nil ?_
      refine WX.seqN ?_
      refine WC.block ?_
      change w28.heap[b19]? = some (.cells (Value.cells (secV (List.foldl (GDisk.over a) r15 (List.take (0 : Int).toNat d.opn)))) 76 (0, 0)) at hb29
      refine WC.loop (ι := Int) (fun (i : Int) => [(0, .pointer (some ⟨b, 0, none⟩)), (1, .int .i64 a), (4, .string ⟨#[]⟩), (5, .int .i64 0), (9, .pointer (some ⟨b, 0, none⟩)), (10, .int .i64 a), (11, .bool (decide (0 ≤ a ∧ a < (d.secs.length : Int)))), (12, .bool (!(decide (0 ≤ a ∧ a < (d.secs.length : Int))))), (13, .pointer (some ⟨b, 0, none⟩)), (14, .pointer (some ⟨b, 0, none⟩)), (15, .pointer (some ⟨b, 3, none⟩)), (16, .int .i64 d.reads), (17, .int .i64 (IntKind.i64.wrap (d.reads + 1))), (18, .pointer (some ⟨b, 0, none⟩)), (19, .pointer (some ⟨b, 3, none⟩)), (20, .pointer (some ⟨b, 0, none⟩)), (21, .bool (decide (d.fail = 1))), (22, .pointer (some ⟨b, 0, none⟩)), (23, .pointer (some ⟨b, 0, none⟩)), (24, .pointer (some ⟨b, 0, none⟩)), (25, .slice A1 d.secs.length c1), (26, .int .i64 a), (27, .pointer (some ⟨b13, o14 + (a).toNat * 64, none⟩)), (28, secV r15), (6, .pointer (some ⟨b19, 0, none⟩)), (29, .pointer (some ⟨b, 0, none⟩)), (30, .pointer (some ⟨b, 0, none⟩)), (31, .pointer (some ⟨b, 1, none⟩)), (32, .slice A2 d.opn.length c2), (33, .int .i64 (d.opn.length : Int)), (34, .int .i64 i)]) (fun (i : Int) (w_ : World) => (Keeps S w w_) ∧ (w_.heap[b]? = some (.cells #[.slice A1 d.secs.length c1, .slice A2 d.opn.length c2, .int .i64 (tickF d.fail), .int .i64 (IntKind.i64.wrap (d.reads + 1))] 54 (0, 0))) ∧ (OwAt secC 64 76 A1 c1 d.secs w_) ∧ (OwAt wrC 65 78 A2 c2 d.opn w_) ∧ (w_.heap[b19]? = some (.cells (Value.cells (secV (List.foldl (GDisk.over a) r15 (List.take i.toNat d.opn)))) 76 (0, 0))) ∧ (0 ≤ i) ∧ (i ≤ d.opn.length)) (fun (i : Int) => (d.opn.length - i).toNat) 0 ⟨(by kernel_rfl), (by kernel_rfl), (by kernel_rfl), (by kernel_rfl), (by kernel_rfl), (by kernel_rfl), (by kernel_rfl), (by kernel_rfl), (by kernel_rfl), (by kernel_rfl), (by kernel_rfl), (by kernel_rfl), (by kernel_rfl), (by kernel_rfl), (by kernel_rfl), (by kernel_rfl), (by kernel_rfl), (by kernel_rfl), (by kernel_rfl), (by kernel_rfl), (by kernel_rfl), (by kernel_rfl), (by kernel_rfl), (by kernel_rfl), (by kernel_rfl), (by kernel_rfl), (by kernel_rfl), (by kernel_rfl), (by kernel_rfl), (by kernel_rfl), (by kernel_rfl), trivial⟩ ⟨K, hb10, h1, h2, hb29, Int.le_refl 0, (by omega)⟩ ?_
      rintro i w31 ⟨K, hb32, hb33, hb35, hb37, i0, i1⟩
      refine WC.seq ?_
      refine WC.region ?_
      refine WL.op (d := 35) (.bool (decide (i < (d.opn.length : Int)))) (k := ?_)
      refine WL.nil ?_
      refine WX.seqN ?_
      refine WC.seq ?_
      refine WC.cond (b := decide (i < (d.opn.length : Int))) (ht := fun h38 => ?_) (hf := fun h38 => ?_)
      · have ph38 := of_decide_eq_true h38
        refine WC.skip ?_
        refine WX.seqN ?_
        refine WC.seq ?_
        refine WC.block ?_
        refine WC.seq ?_
        refine WC.region ?_
        obtain ⟨b39, o40, r41, hr42, hA43, he44⟩ := SlAt.at (hb35.sl ekWr) (i := i) (by omega) (by omega)
        refine WL.rw (t := 32) (v := .slice (some ⟨b39, o40, none⟩) d.opn.length c2) (congrArg (fun a => Value.slice a d.opn.length c2) hA43) (k := ?_)
        refine WL.idx (T := 52) (E := 78) (m := 65) (b := b39) (o := o40) (len := d.opn.length) (cap := c2) (i := i) (kk := .i64) (d := 36) (by omega) (by omega) (k := ?_)
        refine WL.rw (t := 32) (v := .slice A2 d.opn.length c2) (congrArg (fun a => Value.slice a d.opn.length c2) (Eq.symm hA43)) (k := ?_)
        refine WL.load (v := wrV r41) (he44.ldW (T := 78)) (k := ?_)
        refine WL.new (d := 8) (T := 78) (Value.cells (wrV (0, []))) (k := fun b45 w46 g47 hb48 k49 => ?_)
        have z50 := Nat.le_trans K.size g47
        have n51 : b ≠ b45 := Nat.ne_of_lt (Nat.lt_of_lt_of_le (lt_of_heap hb32) g47)
        have n52 := OwAt.off_new hb33 g47
        have n53 := OwAt.off_new hb35 g47
        have n54 : b19 ≠ b45 := Nat.ne_of_lt (Nat.lt_of_lt_of_le (lt_of_heap hb37) g47)
        replace hb32 := k49.heap hb32 id
        replace hb33 := hb33.adds k49
        replace hb35 := hb35.adds k49
        replace hb37 := k49.heap hb37 id
        replace he44 := he44.adds k49
        replace K := K.trans (k49.any _)
        refine WL.store (v := wrV r41) (i := 0) (cs' := (Value.cells (wrV r41))) hb48 (k := fun w55 hb56 k57 => ?_)
        replace hb32 := k57.heap hb32 n51
        replace hb33 := hb33.keeps k57 (fun i hi e => (n52) (e ▸ hi))
        replace hb35 := hb35.keeps k57 (fun i hi e => (n53) (e ▸ hi))
        replace hb37 := k57.heap hb37 n54
        replace K := K.trans' k57 (fun i hi e => absurd (e ▸ hi) (Nat.not_lt.2 z50))
        clear hb48
        refine WL.nil ?_
        refine WX.seqN ?_
        refine WC.seq ?_
        refine WC.region ?_
        refine WL.op (d := 38) (.pointer (some ⟨b45, 0, none⟩)) (k := ?_)
        refine WL.load (v := .int .i64 r41.1) (ld1 (T := 3) (i := 0) hb56) (k := ?_)
        refine WL.op (d := 40) (.int .i64 a) (k := ?_)
        refine WL.op (d := 41) (.bool (r41.1 == a)) (k := ?_)
        refine WL.nil ?_
        refine WX.seqN ?_
        refine WC.cond (b := r41.1 == a) (ht := fun h58 => ?_) (hf := fun h58 => ?_)
        · have ph58 := eq_of_beq h58
          refine WC.region ?_
          refine WL.op (d := 42) (.pointer (some ⟨b45, 1, none⟩)) (k := ?_)
          refine WL.load (v := secV r41.2) (ldN (T := 76) (i := 1) (m := 64) (l := (Value.cells (secV r41.2)).toList) hb56) (k := ?_)
          refine WL.store (v := secV r41.2) (i := 0) (cs' := (Value.cells (secV r41.2))) hb37 (k := fun w59 hb60 k61 => ?_)
          replace hb32 := k61.heap hb32 n25
          replace hb33 := hb33.keeps k61 (fun i hi e => (n26) (e ▸ hi))
          replace hb35 := hb35.keeps k61 (fun i hi e => (n27) (e ▸ hi))
          replace hb56 := k61.heap hb56 (Ne.symm n54)
          replace K := K.trans' k61 (fun i hi e => absurd (e ▸ hi) (Nat.not_lt.2 z24))
          clear hb37
          refine WL.nil ?_
          refine WX.blockN ?_
          refine WX.seqN ?_
          refine WC.region ?_
          refine WL.opE (d := 44) (.int .i64 (IntKind.i64.wrap (i + 1))) (v := .int .i64 (i + 1)) (congrArg (Value.int .i64) (IntWalk.i64_in _ (by omega))) (k := ?_)
          refine WL.op (d := 34) (.int .i64 (i + 1)) (k := ?_)
          refine WL.nil ?_
          rw [GDisk.ov_t (s := r15) i0 hr42 ph58] at hb60
          refine WX.round (i + 1) (by show (d.opn.length - (i + 1)).toNat < (d.opn.length - i).toNat; omega) ⟨(by kernel_rfl), (by kernel_rfl), (by kernel_rfl), (by kernel_rfl), (by kernel_rfl), (by kernel_rfl), (by kernel_rfl), (by kernel_rfl), (by kernel_rfl), (by kernel_rfl), (by kernel_rfl), (by kernel_rfl), (by kernel_rfl), (by kernel_rfl), (by kernel_rfl), (by kernel_rfl), (by kernel_rfl), (by kernel_rfl), (by kernel_rfl), (by kernel_rfl), (by kernel_rfl), (by kernel_rfl), (by kernel_rfl), (by kernel_rfl), (by kernel_rfl), (by kernel_rfl), (by kernel_rfl), (by kernel_rfl), (by kernel_rfl), (by kernel_rfl), (by kernel_rfl), trivial⟩ ⟨K, hb32, hb33, hb35, hb60, (by omega), (by omega)⟩
        · have ph58 := ne_of_beq_false h58
          refine WC.skip ?_
          refine WX.blockN ?_
          refine WX.seqN ?_
          refine WC.region ?_
          refine WL.opE (d := 44) (.int .i64 (IntKind.i64.wrap (i + 1))) (v := .int .i64 (i + 1)) (congrArg (Value.int .i64) (IntWalk.i64_in _ (by omega))) (k := ?_)
          refine WL.op (d := 34) (.int .i64 (i + 1)) (k := ?_)
          refine WL.nil ?_
          rw [GDisk.ov_f (s := r15) i0 hr42 ph58] at hb37
          refine WX.round (i + 1) (by show (d.opn.length - (i + 1)).toNat < (d.opn.length - i).toNat; omega) ⟨(by kernel_rfl), (by kernel_rfl), (by kernel_rfl), (by kernel_rfl), (by kernel_rfl), (by kernel_rfl), (by kernel_rfl), (by kernel_rfl), (by kernel_rfl), (by kernel_rfl), (by kernel_rfl), (by kernel_rfl), (by kernel_rfl), (by kernel_rfl), (by kernel_rfl), (by kernel_rfl), (by kernel_rfl), (by kernel_rfl), (by kernel_rfl), (by kernel_rfl), (by kernel_rfl), (by kernel_rfl), (by kernel_rfl), (by kernel_rfl), (by kernel_rfl), (by kernel_rfl), (by kernel_rfl), (by kernel_rfl), (by kernel_rfl), (by kernel_rfl), (by kernel_rfl), trivial⟩ ⟨K, hb32, hb33, hb35, hb37, (by omega), (by omega)⟩
      · have ph38 := of_decide_eq_false h38
        refine WC.exit ?_
        refine WX.seqE ?_
        refine WX.seqE ?_
        refine WX.blockE ?_
        refine WX.seqN ?_
        refine WC.seq ?_
        refine WC.region ?_
        refine WL.op (d := 45) (.slice (some ⟨b19, 0, none⟩) 64 64) (k := ?_)
        refine WL.conv (d := 46) (vx := .slice (some ⟨b19, 0, none⟩) 64 64) (v := .string ⟨((List.foldl (GDisk.over a) r15 (List.take i.toNat d.opn))).toArray⟩) (ofBytesSl (n := 64) (SlAt.of_sec hb37 (GDisk.overs_len (fun x hx => (ow_ x (List.mem_of_mem_take hx)).1) (os_ _ (List.mem_of_getElem? (by assumption))))) (GDisk.overs_len (fun x hx => (ow_ x (List.mem_of_mem_take hx)).1) (os_ _ (List.mem_of_getElem? (by assumption))))) (k := ?_)
        refine WL.op (d := 4) (.string ⟨((List.foldl (GDisk.over a) r15 (List.take i.toNat d.opn))).toArray⟩) (k := ?_)
        refine WL.op (d := 5) (.int .i64 0) (k := ?_)
        refine WL.nil ?_
        refine WX.seqN ?_
        refine WC.ret ?_
        refine WX.ret (rs := [.tmp 4, .tmp 5]) [.string ⟨((List.foldl (GDisk.over a) r15 (List.take i.toNat d.opn))).toArray⟩, .int .i64 0] (.tuple #[.string ⟨((List.foldl (GDisk.over a) r15 (List.take i.toNat d.opn))).toArray⟩, .int .i64 0]) ⟨(by kernel_rfl), (by kernel_rfl), trivial⟩ (k := ?_)
        obtain ⟨e1_, e2_, e3_⟩ := GDisk.read_ok (d := d) (a := a) ph5 ph12
        have e4_ := GDisk.at_eq (a := a) (i := i) hr16 (by omega)
        exact ⟨by rw [e1_, e2_, ← e4_], by rw [e3_]; exact DiskAt.mkS (d := ⟨d.secs, d.opn, tickF d.fail, IntKind.i64.wrap (d.reads + 1)⟩) hS hb32 hb33 hb35 (GDisk.ok_of ho), K⟩
set_option maxRecDepth 100000 in
set_option maxHeartbeats 4000000 in
theorem dFail_c {n : Int} (hn : n ≤ 9223372036854775807) {S : Nat → Prop} {b : Nat} {d : GDisk} {w : World} (hd : DiskAt S b d w) : Calls Tryz.prog 14 #[.pointer (some ⟨b, 0, none⟩), .int .i64 n] w fun e w' => e = .returned (.tuple #[]) ∧ DiskAt S b (d.failD n) w' ∧ Keeps S w w' := by
  have K : Keeps S w w := Keeps.refl _ w
  obtain ⟨A1, c1, A2, c2, hb, h1, h2, hS, ho⟩ := hd
  have ho2 := ho
  obtain ⟨os_, ow_, of0_, of1_, on_, om_⟩ := ho2
  refine Calls.start Tryz.func14 rfl (by kernel_rfl) ?_
  refine WC.seq ?_
  refine WC.region ?_
  refine WL.op (d := 4) (.pointer (some ⟨b, 0, none⟩)) (k := ?_)
  refine WL.op (d := 5) (.bool true) (k := ?_)
  refine WL.nil ?_
  refine WX.seqN ?_
  refine WC.condT (k := ?_)
  refine WC.region ?_
  refine WL.op (d := 6) (.pointer (some ⟨b, 0, none⟩)) (k := ?_)
  refine WL.op (d := 7) (.int .i64 n) (k := ?_)
  refine WL.op (d := 8) (.int .i64 (if 0 > n then 0 else n)) (k := ?_)
  refine WL.op (d := 9) (.pointer (some ⟨b, 0, none⟩)) (k := ?_)
  refine WL.op (d := 10) (.pointer (some ⟨b, 2, none⟩)) (k := ?_)
  refine WL.store (v := .int .i64 (if 0 > n then 0 else n)) (i := 2) (cs' := #[.slice A1 d.secs.length c1, .slice A2 d.opn.length c2, .int .i64 (if 0 > n then 0 else n), .int .i64 d.reads]) hb (k := fun w1 hb2 k3 => ?_)
  replace h1 := h1.keeps k3 (fun i hi e => (h1.offT hb (by decide)) (e ▸ hi))
  replace h2 := h2.keeps k3 (fun i hi e => (h2.offT hb (by decide)) (e ▸ hi))
  replace K := K.trans' k3 (fun i hi e => (hS i).2 (.inl e))
  clear hb
  refine WL.nil ?_
  refine WX.end (rs := []) [] (.tuple #[]) trivial (k := ?_)
  exact ⟨rfl, DiskAt.mkS (d := d.failD n) hS hb2 h1 h2 ⟨os_, ow_, by simp only [GDisk.failD]; omega, by simp only [GDisk.failD]; omega, on_, om_⟩, K⟩
theorem tickF_rng' {f : Int} (h : 0 ≤ f ∧ f ≤ 9223372036854775807) : 0 ≤ tickF f ∧ tickF f ≤ 9223372036854775807 := GDisk.tickF_rng h
theorem dlink {S : Nat → Prop} {b : Nat} {A1 A2 A2' : Option Addr} {w : World} (hS : ∀ k, S k ↔ k = b ∨ blk A1 = some k ∨ blk A2 = some k) (n : blk A2' = blk A2 ∨ ∃ k, blk A2' = some k ∧ w.heap.size ≤ k) : ∀ k, (k = b ∨ blk A1 = some k ∨ blk A2' = some k) → S k ∨ w.heap.size ≤ k := by
  intro k h
  rcases h with h | h | h
  · exact .inl ((hS k).2 (.inl h))
  · exact .inl ((hS k).2 (.inr (.inl h)))
  · rcases n with n | ⟨j, n, hj⟩
    · exact .inl ((hS k).2 (.inr (.inr (n ▸ h))))
    · rw [n] at h; cases h; exact .inr hj
set_option maxRecDepth 100000 in
set_option maxHeartbeats 4000000 in
theorem dWrite_c {S : Nat → Prop} {b : Nat} {d : GDisk} {w : World} {a : Int} {l : List UInt8} (hm : d.opn.length < 1000000) (hl : l.length ≤ 1000000) (hd : DiskAt S b d w) : Calls Tryz.prog 45 #[.pointer (some ⟨b, 0, none⟩), .int .i64 a, .string ⟨l.toArray⟩] w fun e w' => e = .returned (.int .i64 (d.writeE a l)) ∧ DkPost S b (d.writeD a l) w w' := by
  have K : Keeps S w w := Keeps.refl _ w
  obtain ⟨A1, c1, A2, c2, hb, h1, h2, hS, ho⟩ := hd
  have ho2 := ho
  obtain ⟨os_, ow_, of0_, of1_, on_, om_⟩ := ho2
  refine Calls.start Tryz.func45 rfl (by kernel_rfl) ?_
  refine WC.seq ?_
  refine WC.region ?_
  refine WL.op (d := 6) (.int .i64 0) (k := ?_)
  refine WL.nil ?_
  refine WX.seqN ?_
  refine WC.seq ?_
  refine WC.block ?_
  refine WC.seq ?_
  refine WC.region ?_
  refine WL.op (d := 9) (.pointer (some ⟨b, 0, none⟩)) (k := ?_)
  refine WL.op (d := 10) (.int .i64 a) (k := ?_)
  refine WL.callG (d := 11) (f := 50) (args := #[.pointer (some ⟨b, 0, none⟩), .int .i64 a]) (dThere_b (a := a) hb) (k := fun e_ w1 h_ => ⟨.bool (decide (0 ≤ a ∧ a < (d.secs.length : Int))), h_.1, ?_⟩)
  have k2 := h_.2; clear h_
  replace hb := k2.heap hb id
  replace h1 := h1.adds k2
  replace h2 := h2.adds k2
  replace K := K.trans (k2.any _)
  refine WL.op (d := 12) (.bool (!(decide (0 ≤ a ∧ a < (d.secs.length : Int))))) (k := ?_)
  refine WL.op (d := 13) (.bool (!(decide (0 ≤ a ∧ a < (d.secs.length : Int))))) (k := ?_)
  refine bsplit (!(decide (0 ≤ a ∧ a < (d.secs.length : Int)))) (fun h3 => ?_) (fun h3 => ?_)
  · have h4 : (decide (0 ≤ a ∧ a < (d.secs.length : Int))) = false := Bool.not_inj (y := false) h3
    have ph4 := of_decide_eq_false h4
    refine WL.rw (t := 13) (v := .bool true) (congrArg Value.bool h3) (k := ?_)
    refine WL.skip (d := 14) (k := ?_)
    refine WL.skip (d := 15) (k := ?_)
    refine WL.skip (d := 16) (k := ?_)
    refine WL.op (d := 17) (.bool true) (k := ?_)
    refine WL.op (d := 8) (.bool true) (k := ?_)
    refine WL.nil ?_
    refine WX.seqN ?_
    refine WC.condT (k := ?_)
    refine WC.seq ?_
    refine WC.region ?_
    refine WL.op (d := 6) (.int .i64 1) (k := ?_)
    refine WL.nil ?_
    refine WX.seqN ?_
    refine WC.ret ?_
    refine WX.blockR ?_
    refine WX.seqR ?_
    refine WX.ret (rs := [.tmp 6]) [.int .i64 1] (.int .i64 1) ⟨(by kernel_rfl), trivial⟩ (k := ?_)
    obtain ⟨e1_, e2_⟩ := GDisk.write_no (d := d) (a := a) (l := l) (fun h_ => ph4 h_.1)
    exact ⟨by rw [e1_], _, by rw [e2_]; exact DiskAt.mk (d := d) hb h1 h2 (ho), (fun k h => .inl ((hS k).2 h)), K⟩
  · have h5 : (decide (0 ≤ a ∧ a < (d.secs.length : Int))) = true := Bool.not_inj (y := true) h3
    have ph5 := of_decide_eq_true h5
    refine WL.rw (t := 13) (v := .bool false) (congrArg Value.bool h3) (k := ?_)
    refine WL.op (d := 14) (.string ⟨(l).toArray⟩) (k := ?_)
    refine WL.op (d := 15) (.int .i64 (l.length : Int)) (k := ?_)
    refine WL.op (d := 16) (.bool ((l.length : Int) != 64)) (k := ?_)
    refine WL.op (d := 17) (.bool ((l.length : Int) != 64)) (k := ?_)
    refine WL.op (d := 8) (.bool ((l.length : Int) != 64)) (k := ?_)
    refine WL.nil ?_
    refine WX.seqN ?_
    refine WC.cond (b := (l.length : Int) != 64) (ht := fun h6 => ?_) (hf := fun h6 => ?_)
    · have ph6 := bne_iff_ne.1 h6
      refine WC.seq ?_
      refine WC.region ?_
      refine WL.op (d := 6) (.int .i64 1) (k := ?_)
      refine WL.nil ?_
      refine WX.seqN ?_
      refine WC.ret ?_
      refine WX.blockR ?_
      refine WX.seqR ?_
      refine WX.ret (rs := [.tmp 6]) [.int .i64 1] (.int .i64 1) ⟨(by kernel_rfl), trivial⟩ (k := ?_)
      obtain ⟨e1_, e2_⟩ := GDisk.write_no (d := d) (a := a) (l := l) (fun h_ => ph6 (by omega))
      exact ⟨by rw [e1_], _, by rw [e2_]; exact DiskAt.mk (d := d) hb h1 h2 (ho), (fun k h => .inl ((hS k).2 h)), K⟩
    · have ph6 := of_bne_false h6
      refine WC.seq ?_
      refine WC.region ?_
      refine WL.op (d := 19) (.pointer (some ⟨b, 0, none⟩)) (k := ?_)
      refine WL.callG (d := 20) (f := 51) (args := #[.pointer (some ⟨b, 0, none⟩)]) (dFails_b hb (by omega)) (k := fun e_ w7 h_ => ?_)
      obtain ⟨rfl, hb8, k9⟩ := h_
      refine ⟨_, rfl, ?_⟩
      replace h1 := h1.keeps k9 (fun i hi e => (h1.offT hb (by decide)) (e ▸ hi))
      replace h2 := h2.keeps k9 (fun i hi e => (h2.offT hb (by decide)) (e ▸ hi))
      replace K := K.trans' k9 (fun i hi e => (hS i).2 (.inl e))
      clear hb
      refine WL.op (d := 18) (.bool (decide (d.fail = 1))) (k := ?_)
      refine WL.nil ?_
      refine WX.seqN ?_
      refine WC.cond (b := decide (d.fail = 1)) (ht := fun h10 => ?_) (hf := fun h10 => ?_)
      · have ph10 := of_decide_eq_true h10
        refine WC.seq ?_
        refine WC.region ?_
        refine WL.op (d := 6) (.int .i64 18) (k := ?_)
        refine WL.nil ?_
        refine WX.seqN ?_
        refine WC.ret ?_
        refine WX.blockR ?_
        refine WX.seqR ?_
        refine WX.ret (rs := [.tmp 6]) [.int .i64 18] (.int .i64 18) ⟨(by kernel_rfl), trivial⟩ (k := ?_)
        obtain ⟨e1_, e2_⟩ := GDisk.write_io (d := d) (a := a) (l := l) ⟨ph5, by omega⟩ ph10
        exact ⟨by rw [e1_], _, by rw [e2_]; exact DiskAt.mk (d := ⟨d.secs, d.opn, tickF d.fail, d.reads⟩) hb8 h1 h2 (GDisk.ok_of ho), (fun k h => .inl ((hS k).2 h)), K⟩
      · have ph10 := of_decide_eq_false h10
        refine WC.skip ?_
        refine WX.blockN ?_
        refine WX.seqN ?_
        refine WC.seq ?_
        refine WC.region ?_
        refine WL.op (d := 21) (.int .i64 a) (k := ?_)
        refine WL.op (d := 22) (wrV (a, [])) (k := ?_)
        refine WL.new (d := 7) (T := 78) (Value.cells (wrV (0, []))) (k := fun b11 w12 g13 hb14 k15 => ?_)
        have z16 := Nat.le_trans K.size g13
        have n17 : b ≠ b11 := Nat.ne_of_lt (Nat.lt_of_lt_of_le (lt_of_heap hb8) g13)
        have n18 := OwAt.off_new h1 g13
        have n19 := OwAt.off_new h2 g13
        replace hb8 := k15.heap hb8 id
        replace h1 := h1.adds k15
        replace h2 := h2.adds k15
        replace K := K.trans (k15.any _)
        refine WL.store (v := wrV (a, [])) (i := 0) (cs' := (Value.cells (wrV (a, [])))) hb14 (k := fun w20 hb21 k22 => ?_)
        replace hb8 := k22.heap hb8 n17
        replace h1 := h1.keeps k22 (fun i hi e => (n18) (e ▸ hi))
        replace h2 := h2.keeps k22 (fun i hi e => (n19) (e ▸ hi))
        replace K := K.trans' k22 (fun i hi e => absurd (e ▸ hi) (Nat.not_lt.2 z16))
        clear hb14
        refine WL.nil ?_
        refine WX.seqN ?_
        refine WC.seq ?_
        refine WC.region ?_
        refine WL.op (d := 23) (.pointer (some ⟨b11, 1, none⟩)) (k := ?_)
        refine WL.op (d := 24) (.slice (some ⟨b11, 1, none⟩) 64 64) (k := ?_)
        refine WL.op (d := 25) (.string ⟨(l).toArray⟩) (k := ?_)
        obtain ⟨w23, hc24, hb25, k26⟩ := run_copyWr (l := l) hb21 (by omega)
        refine WL.copyB (d := 26) (vx := .slice (some ⟨b11, 1, none⟩) 64 64) (vy := .string ⟨(l).toArray⟩) (v := _) hc24 (k := ?_)
        clear hc24
        replace hb8 := k26.heap hb8 n17
        replace h1 := h1.keeps k26 (fun i hi e => (n18) (e ▸ hi))
        replace h2 := h2.keeps k26 (fun i hi e => (n19) (e ▸ hi))
        replace K := K.trans' k26 (fun i hi e => absurd (e ▸ hi) (Nat.not_lt.2 z16))
        clear hb21
        refine WL.nil ?_
        refine WX.seqN ?_
        refine WC.seq ?_
        refine WC.mixed (fun k => k = b ∨ blk A2 = some k) 11 (k := fun w27 k28 => ?_)
        replace hb8 := k28.heap hb8 id
        replace h1 := h1.adds k28
        replace h2 := h2.adds k28
        replace hb25 := k28.heap hb25 id
        replace K := K.trans (k28.any _)
        have KC := Keeps.refl (fun k => k = b ∨ blk A2 = some k) w27
        have bh29 := hb8
        have bh30 := hb25
        have Kb := K
        refine WA.quiet2 0 (d := 27) (.pointer (some ⟨b, 0, none⟩)) KC (hi := rfl) (k := ?_)
        refine WA.quiet2 1 (d := 28) (.pointer (some ⟨b, 0, none⟩)) KC (hi := rfl) (k := ?_)
        refine WA.quiet2 2 (d := 29) (.pointer (some ⟨b, 0, none⟩)) KC (hi := rfl) (k := ?_)
        refine WA.quiet2 3 (d := 30) (.pointer (some ⟨b, 1, none⟩)) KC (hi := rfl) (k := ?_)
        refine WA.quietR2 5 (d := 32) (wrV (a, l)) KC (exec_load (fun w_ k_ => ldN (T := 78) (i := 0) (m := 65) (l := (Value.cells (wrV (a, l))).toList) (k_.heap bh30 (not_or.2 ⟨(Ne.symm n17), n19⟩)))) (hi := rfl) (k := ?_)
        refine WA.step2 4 6 (hi := rfl) (hj := rfl) (k1 := ?_) (k2 := ?_)
        · refine WL.load (v := .slice A2 d.opn.length c2) (ld1 (T := 52) (i := 1) hb8) (k := ?_)
          refine WL.nil ?_
          refine WX.nxt KC ?_
          refine WA.step 6 (hi := rfl) (k := ?_)
          refine WL.newF (d := 33) (T := 78) (Value.cells (wrV (a, l))) (fun b => .slice (some ⟨b, 0, none⟩) 1 1) (k := fun b31 w32 g33 hb34 k35 => ?_)
          have z36 := Nat.le_trans K.size g33
          have zc37 := Nat.le_trans KC.size g33
          have n38 : b ≠ b31 := Nat.ne_of_lt (Nat.lt_of_lt_of_le (lt_of_heap hb8) g33)
          have n39 := OwAt.off_new h1 g33
          have n40 := OwAt.off_new h2 g33
          have n41 : b11 ≠ b31 := Nat.ne_of_lt (Nat.lt_of_lt_of_le (lt_of_heap hb25) g33)
          replace hb8 := k35.heap hb8 id
          replace h1 := h1.adds k35
          replace h2 := h2.adds k35
          replace hb25 := k35.heap hb25 id
          replace K := K.trans (k35.any _)
          replace KC := KC.trans (k35.any _)
          refine WL.nil ?_
          refine WX.nxt KC ?_
          refine WA.step 7 (hi := rfl) (k := ?_)
          refine WL.append (d := 34) (T := 52) (cl := wrC) (xs := d.opn) (ys := [(a, l)]) (c := 1) ekWr h2 (SlAt.of_lit (ys := [(a, l)]) ekWr hb34 (by kernel_rfl)) (by first | omega | (simp; omega)) (k := fun A42 c43 w44 ho45 k46 n47 => ?_)
          have ol48 := nlink_up K n47
          have n49 := off_step n47 n19 (lt_of_heap hb25)
          replace hb8 := k46.heap hb8 (h2.offT hb8 (by decide))
          replace h1 := h1.keeps k46 (OwAt.offOw h1 h2 (by decide))
          replace hb25 := k46.heap hb25 n19
          replace K := K.trans' k46 (fun i hi e => (hS i).2 (.inr (.inr e)))
          replace KC := KC.trans' k46 (fun i hi e => .inr (e))
          clear h2
          refine WL.nil ?_
          refine WX.nxt KC ?_
          refine WA.quiet2 8 (d := 35) (.pointer (some ⟨b, 0, none⟩)) KC (hi := rfl) (k := ?_)
          refine WA.quiet2 9 (d := 36) (.pointer (some ⟨b, 1, none⟩)) KC (hi := rfl) (k := ?_)
          refine WA.step 10 (hi := rfl) (k := ?_)
          refine WL.store (v := .slice A42 ((d.opn ++ [(a, l)]).length) c43) (i := 1) (cs' := #[.slice A1 d.secs.length c1, .slice A42 ((d.opn ++ [(a, l)]).length) c43, .int .i64 (tickF d.fail), .int .i64 d.reads]) hb8 (k := fun w50 hb51 k52 => ?_)
          replace h1 := h1.keeps k52 (fun i hi e => (h1.offT hb8 (by decide)) (e ▸ hi))
          replace ho45 := ho45.keeps k52 (fun i hi e => (ho45.offT hb8 (by decide)) (e ▸ hi))
          replace hb25 := k52.heap hb25 (Ne.symm n17)
          replace K := K.trans' k52 (fun i hi e => (hS i).2 (.inl e))
          replace KC := KC.trans' k52 (fun i hi e => .inl (e))
          clear hb8
          refine WL.nil ?_
          refine WX.nxt KC ?_
          refine WA.done (k := ?_)
          clear KC
          refine WX.seqN ?_
          refine WC.seq ?_
          refine WC.region ?_
          refine WL.op (d := 6) (.int .i64 0) (k := ?_)
          refine WL.nil ?_
          refine WX.seqN ?_
          refine WC.ret ?_
          refine WX.ret (rs := [.tmp 6]) [.int .i64 0] (.int .i64 0) ⟨(by kernel_rfl), trivial⟩ (k := ?_)
          obtain ⟨e1_, e2_⟩ := GDisk.write_ok (d := d) (a := a) (l := l) ⟨ph5, by omega⟩ ph10
          exact ⟨by rw [e1_], _, by rw [e2_]; exact DiskAt.mk (d := ⟨d.secs, d.opn ++ [(a, l)], tickF d.fail, d.reads⟩) hb51 h1 ho45 (GDisk.write_dok ho ⟨ph5, by omega⟩ (by omega) _ _ (tickF_rng' ⟨of0_, of1_⟩)), dlink hS ol48, K⟩
        · refine WL.newF (d := 33) (T := 78) (Value.cells (wrV (a, l))) (fun b => .slice (some ⟨b, 0, none⟩) 1 1) (k := fun b53 w54 g55 hb56 k57 => ?_)
          have z58 := Nat.le_trans K.size g55
          have zc59 := Nat.le_trans KC.size g55
          have n60 : b ≠ b53 := Nat.ne_of_lt (Nat.lt_of_lt_of_le (lt_of_heap hb8) g55)
          have n61 := OwAt.off_new h1 g55
          have n62 := OwAt.off_new h2 g55
          have n63 : b11 ≠ b53 := Nat.ne_of_lt (Nat.lt_of_lt_of_le (lt_of_heap hb25) g55)
          replace hb8 := k57.heap hb8 id
          replace h1 := h1.adds k57
          replace h2 := h2.adds k57
          replace hb25 := k57.heap hb25 id
          replace K := K.trans (k57.any _)
          replace KC := KC.trans (k57.any _)
          refine WL.nil ?_
          refine WX.nxt KC ?_
          refine WA.step 4 (hi := rfl) (k := ?_)
          refine WL.load (v := .slice A2 d.opn.length c2) (ld1 (T := 52) (i := 1) hb8) (k := ?_)
          refine WL.nil ?_
          refine WX.nxt KC ?_
          refine WA.step 7 (hi := rfl) (k := ?_)
          refine WL.append (d := 34) (T := 52) (cl := wrC) (xs := d.opn) (ys := [(a, l)]) (c := 1) ekWr h2 (SlAt.of_lit (ys := [(a, l)]) ekWr hb56 (by kernel_rfl)) (by first | omega | (simp; omega)) (k := fun A64 c65 w66 ho67 k68 n69 => ?_)
          have ol70 := nlink_up K n69
          have n71 := off_step n69 n19 (lt_of_heap hb25)
          replace hb8 := k68.heap hb8 (h2.offT hb8 (by decide))
          replace h1 := h1.keeps k68 (OwAt.offOw h1 h2 (by decide))
          replace hb25 := k68.heap hb25 n19
          replace K := K.trans' k68 (fun i hi e => (hS i).2 (.inr (.inr e)))
          replace KC := KC.trans' k68 (fun i hi e => .inr (e))
          clear h2
          refine WL.nil ?_
          refine WX.nxt KC ?_
          refine WA.quiet2 8 (d := 35) (.pointer (some ⟨b, 0, none⟩)) KC (hi := rfl) (k := ?_)
          refine WA.quiet2 9 (d := 36) (.pointer (some ⟨b, 1, none⟩)) KC (hi := rfl) (k := ?_)
          refine WA.step 10 (hi := rfl) (k := ?_)
          refine WL.store (v := .slice A64 ((d.opn ++ [(a, l)]).length) c65) (i := 1) (cs' := #[.slice A1 d.secs.length c1, .slice A64 ((d.opn ++ [(a, l)]).length) c65, .int .i64 (tickF d.fail), .int .i64 d.reads]) hb8 (k := fun w72 hb73 k74 => ?_)
          replace h1 := h1.keeps k74 (fun i hi e => (h1.offT hb8 (by decide)) (e ▸ hi))
          replace ho67 := ho67.keeps k74 (fun i hi e => (ho67.offT hb8 (by decide)) (e ▸ hi))
          replace hb25 := k74.heap hb25 (Ne.symm n17)
          replace K := K.trans' k74 (fun i hi e => (hS i).2 (.inl e))
          replace KC := KC.trans' k74 (fun i hi e => .inl (e))
          clear hb8
          refine WL.nil ?_
          refine WX.nxt KC ?_
          refine WA.done (k := ?_)
          clear KC
          refine WX.seqN ?_
          refine WC.seq ?_
          refine WC.region ?_
          refine WL.op (d := 6) (.int .i64 0) (k := ?_)
          refine WL.nil ?_
          refine WX.seqN ?_
          refine WC.ret ?_
          refine WX.ret (rs := [.tmp 6]) [.int .i64 0] (.int .i64 0) ⟨(by kernel_rfl), trivial⟩ (k := ?_)
          obtain ⟨e1_, e2_⟩ := GDisk.write_ok (d := d) (a := a) (l := l) ⟨ph5, by omega⟩ ph10
          exact ⟨by rw [e1_], _, by rw [e2_]; exact DiskAt.mk (d := ⟨d.secs, d.opn ++ [(a, l)], tickF d.fail, d.reads⟩) hb73 h1 ho67 (GDisk.write_dok ho ⟨ph5, by omega⟩ (by omega) _ _ (tickF_rng' ⟨of0_, of1_⟩)), dlink hS ol70, K⟩
theorem flink {S : Nat → Prop} {b : Nat} {A1 A2 : Option Addr} {w : World} (hS : ∀ k, S k ↔ k = b ∨ blk A1 = some k ∨ blk A2 = some k) : ∀ k, (k = b ∨ blk A1 = some k ∨ blk none = some k) → S k ∨ w.heap.size ≤ k := by
  intro k h
  rcases h with h | h | h
  · exact .inl ((hS k).2 (.inl h))
  · exact .inl ((hS k).2 (.inr (.inl h)))
  · simp [blk] at h
set_option maxRecDepth 100000 in
set_option maxHeartbeats 4000000 in
theorem dFlush_c {S : Nat → Prop} {b : Nat} {d : GDisk} {w : World} (hd : DiskAt S b d w) : Calls Tryz.prog 46 #[.pointer (some ⟨b, 0, none⟩)] w fun e w' => e = .returned (.int .i64 d.flushE) ∧ DkPost S b d.flushD w w' := by
  have K : Keeps S w w := Keeps.refl _ w
  obtain ⟨A1, c1, A2, c2, hb, h1, h2, hS, ho⟩ := hd
  have ho2 := ho
  obtain ⟨os_, ow_, of0_, of1_, on_, om_⟩ := ho2
  refine Calls.start Tryz.func46 rfl (by kernel_rfl) ?_
  refine WC.seq ?_
  refine WC.region ?_
  refine WL.op (d := 2) (.int .i64 0) (k := ?_)
  refine WL.nil ?_
  refine WX.seqN ?_
  refine WC.seq ?_
  refine WC.block ?_
  refine WC.seq ?_
  refine WC.region ?_
  refine WL.op (d := 6) (.pointer (some ⟨b, 0, none⟩)) (k := ?_)
  refine WL.op (d := 7) (.bool false) (k := ?_)
  refine WL.op (d := 5) (.bool false) (k := ?_)
  refine WL.nil ?_
  refine WX.seqN ?_
  refine WC.condF (k := ?_)
  refine WC.seq ?_
  refine WC.region ?_
  refine WL.op (d := 9) (.pointer (some ⟨b, 0, none⟩)) (k := ?_)
  refine WL.callG (d := 10) (f := 51) (args := #[.pointer (some ⟨b, 0, none⟩)]) (dFails_b hb (by omega)) (k := fun e_ w1 h_ => ?_)
  obtain ⟨rfl, hb2, k3⟩ := h_
  refine ⟨_, rfl, ?_⟩
  replace h1 := h1.keeps k3 (fun i hi e => (h1.offT hb (by decide)) (e ▸ hi))
  replace h2 := h2.keeps k3 (fun i hi e => (h2.offT hb (by decide)) (e ▸ hi))
  replace K := K.trans' k3 (fun i hi e => (hS i).2 (.inl e))
  clear hb
  refine WL.op (d := 8) (.bool (decide (d.fail = 1))) (k := ?_)
  refine WL.nil ?_
  refine WX.seqN ?_
  refine WC.cond (b := decide (d.fail = 1)) (ht := fun h4 => ?_) (hf := fun h4 => ?_)
  · have ph4 := of_decide_eq_true h4
    refine WC.seq ?_
    refine WC.region ?_
    refine WL.op (d := 2) (.int .i64 18) (k := ?_)
    refine WL.nil ?_
    refine WX.seqN ?_
    refine WC.ret ?_
    refine WX.blockR ?_
    refine WX.seqR ?_
    refine WX.ret (rs := [.tmp 2]) [.int .i64 18] (.int .i64 18) ⟨(by kernel_rfl), trivial⟩ (k := ?_)
    obtain ⟨e1_, e2_⟩ := GDisk.flush_io ph4
    exact ⟨by rw [e1_], _, by rw [e2_]; exact DiskAt.mk (d := ⟨d.secs, d.opn, tickF d.fail, d.reads⟩) hb2 h1 h2 (GDisk.ok_of ho), (fun k h => .inl ((hS k).2 h)), K⟩
  · have ph4 := of_decide_eq_false h4
    refine WC.skip ?_
    refine WX.blockN ?_
    refine WX.seqN ?_
    refine WC.seq ?_
    refine WC.seq ?_
    refine WC.region ?_
    refine WL.op (d := 11) (.pointer (some ⟨b, 0, none⟩)) (k := ?_)
    refine WL.op (d := 12) (.pointer (some ⟨b, 0, none⟩)) (k := ?_)
    refine WL.op (d := 13) (.pointer (some ⟨b, 1, none⟩)) (k := ?_)
    refine WL.load (v := .slice A2 d.opn.length c2) (ld1 (T := 52) (i := 1) hb2) (k := ?_)
    refine WL.op (d := 15) (.int .i64 (d.opn.length : Int)) (k := ?_)
    refine WL.op (d := 16) (.int .i64 0) (k := ?_)
    refine WL.nil ?_
    refine WX.seqN ?_
    refine WC.block ?_
    change OwAt secC 64 76 A1 c1 (List.foldl GDisk.put d.secs (List.take (0 : Int).toNat d.opn)) w1 at h1
    refine WC.loop (ι := Int) (fun (i : Int) => [(0, .pointer (some ⟨b, 0, none⟩)), (2, .int .i64 0), (6, .pointer (some ⟨b, 0, none⟩)), (7, .bool false), (5, .bool false), (9, .pointer (some ⟨b, 0, none⟩)), (10, .bool (decide (d.fail = 1))), (8, .bool (decide (d.fail = 1))), (11, .pointer (some ⟨b, 0, none⟩)), (12, .pointer (some ⟨b, 0, none⟩)), (13, .pointer (some ⟨b, 1, none⟩)), (14, .slice A2 d.opn.length c2), (15, .int .i64 (d.opn.length : Int)), (16, .int .i64 i)]) (fun (i : Int) (w_ : World) => (Keeps S w w_) ∧ (w_.heap[b]? = some (.cells #[.slice A1 d.secs.length c1, .slice A2 d.opn.length c2, .int .i64 (tickF d.fail), .int .i64 d.reads] 54 (0, 0))) ∧ (OwAt secC 64 76 A1 c1 (List.foldl GDisk.put d.secs (List.take i.toNat d.opn)) w_) ∧ (OwAt wrC 65 78 A2 c2 d.opn w_) ∧ (0 ≤ i) ∧ (i ≤ d.opn.length)) (fun (i : Int) => (d.opn.length - i).toNat) 0 ⟨(by kernel_rfl), (by kernel_rfl), (by kernel_rfl), (by kernel_rfl), (by kernel_rfl), (by kernel_rfl), (by kernel_rfl), (by kernel_rfl), (by kernel_rfl), (by kernel_rfl), (by kernel_rfl), (by kernel_rfl), (by kernel_rfl), (by kernel_rfl), trivial⟩ ⟨K, hb2, h1, h2, Int.le_refl 0, (by omega)⟩ ?_
    rintro i w5 ⟨K, hb6, hb7, hb9, i0, i1⟩
    have pl_ := GDisk.puts_len (List.take i.toNat d.opn) d.secs
    refine WC.seq ?_
    refine WC.region ?_
    refine WL.op (d := 17) (.bool (decide (i < (d.opn.length : Int)))) (k := ?_)
    refine WL.nil ?_
    refine WX.seqN ?_
    refine WC.seq ?_
    refine WC.cond (b := decide (i < (d.opn.length : Int))) (ht := fun h11 => ?_) (hf := fun h11 => ?_)
    · have ph11 := of_decide_eq_true h11
      refine WC.skip ?_
      refine WX.seqN ?_
      refine WC.seq ?_
      refine WC.block ?_
      refine WC.seq ?_
      refine WC.region ?_
      obtain ⟨b12, o13, r14, hr15, hA16, he17⟩ := SlAt.at (hb9.sl ekWr) (i := i) (by omega) (by omega)
      refine WL.rw (t := 14) (v := .slice (some ⟨b12, o13, none⟩) d.opn.length c2) (congrArg (fun a => Value.slice a d.opn.length c2) hA16) (k := ?_)
      obtain ⟨_, _, _⟩ := ow_ _ (List.mem_of_getElem? hr15)
      refine WL.idx (T := 52) (E := 78) (m := 65) (b := b12) (o := o13) (len := d.opn.length) (cap := c2) (i := i) (kk := .i64) (d := 18) (by omega) (by omega) (k := ?_)
      refine WL.rw (t := 14) (v := .slice A2 d.opn.length c2) (congrArg (fun a => Value.slice a d.opn.length c2) (Eq.symm hA16)) (k := ?_)
      refine WL.load (v := wrV r14) (he17.ldW (T := 78)) (k := ?_)
      refine WL.new (d := 4) (T := 78) (Value.cells (wrV (0, []))) (k := fun b18 w19 g20 hb21 k22 => ?_)
      have z23 := Nat.le_trans K.size g20
      have n24 : b ≠ b18 := Nat.ne_of_lt (Nat.lt_of_lt_of_le (lt_of_heap hb6) g20)
      have n25 := OwAt.off_new hb7 g20
      have n26 := OwAt.off_new hb9 g20
      replace hb6 := k22.heap hb6 id
      replace hb7 := hb7.adds k22
      replace hb9 := hb9.adds k22
      replace he17 := he17.adds k22
      replace K := K.trans (k22.any _)
      refine WL.store (v := wrV r14) (i := 0) (cs' := (Value.cells (wrV r14))) hb21 (k := fun w27 hb28 k29 => ?_)
      replace hb6 := k29.heap hb6 n24
      replace hb7 := hb7.keeps k29 (fun i hi e => (n25) (e ▸ hi))
      replace hb9 := hb9.keeps k29 (fun i hi e => (n26) (e ▸ hi))
      replace K := K.trans' k29 (fun i hi e => absurd (e ▸ hi) (Nat.not_lt.2 z23))
      clear hb21
      refine WL.nil ?_
      refine WX.seqN ?_
      refine WC.tail 9 (k := ?_)
      refine WQ.op (d := 20) (.pointer (some ⟨b, 0, none⟩)) (k := ?_)
      refine WQ.op (d := 21) (.pointer (some ⟨b, 0, none⟩)) (k := ?_)
      refine WQ.op (d := 22) (.pointer (some ⟨b, 0, none⟩)) (k := ?_)
      refine WQ.load (v := .slice A1 d.secs.length c1) (fun w_ k_ => ld1 (T := 51) (i := 0) (k_.heap hb6 id)) (k := ?_)
      refine WQ.op (d := 24) (.pointer (some ⟨b18, 0, none⟩)) (k := ?_)
      refine WQ.load (v := .int .i64 r14.1) (fun w_ k_ => ld1 (T := 3) (i := 0) (k_.heap hb28 id)) (k := ?_)
      refine WQ.op (d := 26) (.pointer (some ⟨b18, 1, none⟩)) (k := ?_)
      refine WQ.load (v := secV r14.2) (fun w_ k_ => ldN (T := 76) (i := 1) (m := 64) (l := (Value.cells (secV r14.2)).toList) (k_.heap hb28 id)) (k := ?_)
      obtain ⟨b30, o31, r32, hr33, hA34, he35⟩ := SlAt.at (hb7.sl ekSec) (i := r14.1) (by omega) (by omega)
      refine WQ.rw (t := 23) (v := .slice (some ⟨b30, o31, none⟩) d.secs.length c1) (congrArg (fun a => Value.slice a d.secs.length c1) hA34) (k := ?_)
      refine WQ.idx (T := 51) (E := 76) (m := 64) (b := b30) (o := o31) (len := d.secs.length) (cap := c1) (i := r14.1) (kk := .i64) (d := 28) (by omega) (by omega) (k := ?_)
      refine WQ.rw (t := 23) (v := .slice A1 d.secs.length c1) (congrArg (fun a => Value.slice a d.secs.length c1) (Eq.symm hA34)) (k := ?_)
      refine WQ.nilL (fun w36 k37 => ?_)
      replace hb6 := k37.heap hb6 id
      replace hb7 := hb7.adds k37
      replace hb9 := hb9.adds k37
      replace hb28 := k37.heap hb28 id
      replace he35 := he35.adds k37
      replace K := K.trans (k37.any _)
      obtain ⟨w38, hs39, ho40, k41⟩ := OwAt.set (T := 76) ekSec hb7 hA34 (i := r14.1) (by omega) (by omega) r14.2 (by kernel_rfl)
      refine WL.wr (v := secV r14.2) hs39 (k := ?_)
      clear hs39
      replace hb6 := k41.heap hb6 (hb7.offT hb6 (by decide))
      replace hb9 := hb9.keeps k41 (OwAt.offOw hb9 hb7 (by decide))
      replace hb28 := k41.heap hb28 n25
      replace K := K.trans' k41 (fun i hi e => (hS i).2 (.inr (.inl e)))
      clear hb7
      refine WL.nil ?_
      refine WX.blockN ?_
      refine WX.seqN ?_
      refine WC.region ?_
      refine WL.opE (d := 29) (.int .i64 (IntKind.i64.wrap (i + 1))) (v := .int .i64 (i + 1)) (congrArg (Value.int .i64) (IntWalk.i64_in _ (by omega))) (k := ?_)
      refine WL.op (d := 16) (.int .i64 (i + 1)) (k := ?_)
      refine WL.nil ?_
      have e42 : List.set (List.foldl GDisk.put d.secs (List.take i.toNat d.opn)) (r14.1).toNat r14.2 = List.foldl GDisk.put d.secs (List.take (i + 1).toNat d.opn) := GDisk.put_succ i0 hr15
      rw [e42] at ho40
      refine WX.round (i + 1) (by show (d.opn.length - (i + 1)).toNat < (d.opn.length - i).toNat; omega) ⟨(by kernel_rfl), (by kernel_rfl), (by kernel_rfl), (by kernel_rfl), (by kernel_rfl), (by kernel_rfl), (by kernel_rfl), (by kernel_rfl), (by kernel_rfl), (by kernel_rfl), (by kernel_rfl), (by kernel_rfl), (by kernel_rfl), (by kernel_rfl), trivial⟩ ⟨K, hb6, ho40, hb9, (by omega), (by omega)⟩
    · have ph11 := of_decide_eq_false h11
      refine WC.exit ?_
      refine WX.seqE ?_
      refine WX.seqE ?_
      refine WX.blockE ?_
      refine WX.seqN ?_
      refine WC.seq ?_
      refine WC.region ?_
      refine WL.op (d := 30) (.pointer (some ⟨b, 0, none⟩)) (k := ?_)
      refine WL.op (d := 31) (.pointer (some ⟨b, 0, none⟩)) (k := ?_)
      refine WL.op (d := 32) (.pointer (some ⟨b, 1, none⟩)) (k := ?_)
      refine WL.store (v := .slice none 0 0) (i := 1) (cs' := #[.slice A1 d.secs.length c1, .slice none 0 0, .int .i64 (tickF d.fail), .int .i64 d.reads]) hb6 (k := fun w43 hb44 k45 => ?_)
      replace hb7 := hb7.keeps k45 (fun i hi e => (hb7.offT hb6 (by decide)) (e ▸ hi))
      replace hb9 := hb9.keeps k45 (fun i hi e => (hb9.offT hb6 (by decide)) (e ▸ hi))
      replace K := K.trans' k45 (fun i hi e => (hS i).2 (.inl e))
      clear hb6
      refine WL.nil ?_
      refine WX.seqN ?_
      refine WC.seq ?_
      refine WC.region ?_
      refine WL.op (d := 2) (.int .i64 0) (k := ?_)
      refine WL.nil ?_
      refine WX.seqN ?_
      refine WC.ret ?_
      refine WX.ret (rs := [.tmp 2]) [.int .i64 0] (.int .i64 0) ⟨(by kernel_rfl), trivial⟩ (k := ?_)
      obtain ⟨e1_, e2_⟩ := GDisk.flush_ok ph4
      have e_ := take_endI (xs := d.opn) (i := i) (by omega)
      rw [e_] at hb7
      rw [← GDisk.puts_len d.opn d.secs] at hb44
      exact ⟨by rw [e1_], _, by rw [e2_]; exact DiskAt.mk (d := ⟨List.foldl GDisk.put d.secs d.opn, [], tickF d.fail, d.reads⟩) hb44 hb7 OwAt.nil (GDisk.flush_dok ho _ _ (tickF_rng' ⟨of0_, of1_⟩)), flink hS, K⟩
end Go.Proofs.YtnkkbeafcfjkmaaGreatDoor
namespace Go.Proofs.YtnkkbeafcfjkmaaGreatDoor
open Go.RowKit
set_option linter.unusedVariables false
set_option linter.unusedSimpArgs false
theorem dLen_d {S : Nat → Prop} {b : Nat} {d : GDisk} {w : World} (hd : DiskAt S b d w) : Calls Tryz.prog 27 #[.pointer (some ⟨b, 0, none⟩)] w fun e w' => e = .returned (.int .i64 (d.secs.length : Int)) ∧ Adds w w' := by
  obtain ⟨A1, c1, A2, c2, hb, h1, h2, hS, ho⟩ := hd
  exact dLen_b hb
namespace GDisk
theorem at_len {d : GDisk} (h : d.ok) {a : Int} (ha : d.has a) : (d.at_ a).length = 64 := by
  obtain ⟨h1, h2, _⟩ := h
  refine overs_len (fun x hx => (h2 x hx).1) (h1 _ ?_)
  rw [List.getD_eq_getElem?_getD, List.getElem?_eq_getElem (by unfold has at ha; omega)]
  exact List.getElem_mem _
theorem readT_len {d : GDisk} (h : d.ok) (a : Int) : (d.readT a).length ≤ 64 := by
  unfold readT; split
  · next k => rw [at_len h k.1]; exact Nat.le_refl _
  · simp
def recP (d : GDisk) (a : Int) (e i : Nat) : Prop := d.readE a = 0 ∧ isCell (d.readT a) ∧ rdE (d.readT a) = e ∧ rdN (d.readT a) = i
instance (d : GDisk) (a : Int) (e i : Nat) : Decidable (d.recP a e i) := by unfold recP; infer_instance
def recT (d : GDisk) (a : Int) (e i : Nat) : List UInt8 := if d.recP a e i then rdP (d.readT a) else []
def wrsE (d : GDisk) (a : Int) (x : List UInt8) : Int := if d.writeE a x ≠ 0 then d.writeE a x else (d.writeD a x).flushE
def wrsD (d : GDisk) (a : Int) (x : List UInt8) : GDisk := if d.writeE a x ≠ 0 then d.writeD a x else (d.writeD a x).flushD
theorem rec_io {d : GDisk} {a : Int} {e i : Nat} (h : ¬ d.readE a = 0) : d.recT a e i = [] ∧ decide (d.recP a e i) = false := ⟨if_neg fun k => h k.1, decide_eq_false fun k => h k.1⟩
theorem rec_no {d : GDisk} {a : Int} {e i : Nat} (h : ¬ (isCell (d.readT a) ∧ rdE (d.readT a) = e ∧ rdN (d.readT a) = i)) : d.recT a e i = [] ∧ decide (d.recP a e i) = false := ⟨if_neg fun k => h k.2, decide_eq_false fun k => h k.2⟩
theorem rec_ok {d : GDisk} {a : Int} {e i : Nat} (h0 : d.readE a = 0) (h : isCell (d.readT a) ∧ rdE (d.readT a) = e ∧ rdN (d.readT a) = i) : d.recT a e i = rdP (d.readT a) ∧ decide (d.recP a e i) = true := ⟨if_pos ⟨h0, h⟩, decide_eq_true ⟨h0, h⟩⟩
theorem recT_len {d : GDisk} {a : Int} {e i : Nat} : (d.recT a e i).length ≤ 43 := by
  unfold recT; split
  · exact rdP_len _
  · simp
theorem wrs_no {d : GDisk} {a : Int} {x : List UInt8} (h : d.writeE a x ≠ 0) : d.wrsE a x = d.writeE a x ∧ d.wrsD a x = d.writeD a x := ⟨if_pos h, if_pos h⟩
theorem wrs_ok {d : GDisk} {a : Int} {x : List UInt8} (h : d.writeE a x = 0) : d.wrsE a x = (d.writeD a x).flushE ∧ d.wrsD a x = (d.writeD a x).flushD := ⟨if_neg fun k => k h, if_neg fun k => k h⟩
end GDisk
theorem DkPost.of {S : Nat → Prop} {b : Nat} {d : GDisk} {w0 w : World} {S' : Nat → Prop} (h : DiskAt S' b d w) (lk : ∀ k, S' k → S k ∨ w0.heap.size ≤ k) (K : Keeps S w0 w) : DkPost S b d w0 w := ⟨S', h, lk, K⟩
end Go.Proofs.YtnkkbeafcfjkmaaGreatDoor
namespace Go.Proofs.YtnkkbeafcfjkmaaGreatDoor
open Go.RowKit
set_option linter.unusedVariables false
set_option linter.unusedSimpArgs false
theorem GDisk.zero_ok {n : Nat} (h : n ≤ 1024) : (GDisk.zero n).ok := by
  refine ⟨fun s hs => ?_, (fun x hx => by cases hx), (by simp [GDisk.zero]), (by simp [GDisk.zero]), (by simpa [GDisk.zero] using h), (by simp [GDisk.zero])⟩
  rw [List.eq_of_mem_replicate hs]; simp
theorem zlink {b m : Nat} {A : Option Addr} (hb : m ≤ b) (ho : ∀ i, blk A = some i → m ≤ i) : ∀ k, (k = b ∨ blk A = some k ∨ blk none = some k) → m ≤ k := by
  intro k h
  rcases h with rfl | h | h
  · exact hb
  · exact ho k h
  · simp [blk] at h
set_option maxRecDepth 100000 in
set_option maxHeartbeats 4000000 in
theorem dNew_ok {n : Nat} (n0 : 1 ≤ n) (n1 : n ≤ 1024) (w : World) : Calls Tryz.prog 5 #[.int .i64 (n : Int)] w fun e w' => ∃ b S, e = .returned (.pointer (some ⟨b, 0, none⟩)) ∧ w.heap.size ≤ b ∧ DiskAt S b (GDisk.zero n) w' ∧ (∀ k, S k → w.heap.size ≤ k) ∧ Adds w w' := by
  have K : Keeps (fun _ => False) w w := Keeps.refl _ w
  refine Calls.start Tryz.func5 rfl (by kernel_rfl) ?_
  refine WC.seq ?_
  refine WC.region ?_
  refine WL.op (d := 2) (.pointer none) (k := ?_)
  refine WL.nil ?_
  refine WX.seqN ?_
  refine WC.seq ?_
  refine WC.seq ?_
  refine WC.region ?_
  refine WL.op (d := 3) (.int .i64 (n : Int)) (k := ?_)
  refine WL.op (d := 4) (.bool (decide ((n : Int) < 1))) (k := ?_)
  refine WL.op (d := 5) (.bool (decide ((n : Int) < 1))) (k := ?_)
  refine bsplit (decide ((n : Int) < 1)) (fun h1 => ?_) (fun h1 => ?_)
  · have ph1 := of_decide_eq_true h1
    refine WL.rw (t := 5) (v := .bool true) (congrArg Value.bool h1) (k := ?_)
    refine WL.skip (d := 6) (k := ?_)
    refine WL.skip (d := 7) (k := ?_)
    refine WL.op (d := 8) (.bool true) (k := ?_)
    refine WL.nil ?_
    refine WX.seqN ?_
    refine WC.condT (k := ?_)
    refine WC.seq ?_
    refine WC.region ?_
    refine WL.op (d := 2) (.pointer none) (k := ?_)
    refine WL.nil ?_
    refine WX.seqN ?_
    refine WC.ret ?_
    refine WX.seqR ?_
    refine WX.ret (rs := [.tmp 2]) [.pointer none] (.pointer none) ⟨(by kernel_rfl), trivial⟩ (k := ?_)
    exfalso; omega
  · have ph1 := of_decide_eq_false h1
    refine WL.rw (t := 5) (v := .bool false) (congrArg Value.bool h1) (k := ?_)
    refine WL.op (d := 6) (.int .i64 (n : Int)) (k := ?_)
    refine WL.op (d := 7) (.bool (decide ((n : Int) > 1024))) (k := ?_)
    refine WL.op (d := 8) (.bool (decide ((n : Int) > 1024))) (k := ?_)
    refine WL.nil ?_
    refine WX.seqN ?_
    refine WC.cond (b := decide ((n : Int) > 1024)) (ht := fun h2 => ?_) (hf := fun h2 => ?_)
    · have ph2 := of_decide_eq_true h2
      refine WC.seq ?_
      refine WC.region ?_
      refine WL.op (d := 2) (.pointer none) (k := ?_)
      refine WL.nil ?_
      refine WX.seqN ?_
      refine WC.ret ?_
      refine WX.seqR ?_
      refine WX.ret (rs := [.tmp 2]) [.pointer none] (.pointer none) ⟨(by kernel_rfl), trivial⟩ (k := ?_)
      exfalso; omega
    · have ph2 := of_decide_eq_false h2
      refine WC.skip ?_
      refine WX.seqN ?_
      refine WC.seq ?_
      refine WC.region ?_
      refine WL.op (d := 9) (.int .i64 (n : Int)) (k := ?_)
      obtain ⟨b3, w4, g5, hr6, ho7, k8⟩ := run_makeSecs n (by omega) w
      refine WL.makeS (d := 10) (vx := .int .i64 (n : Int)) (vy := .int .i64 (n : Int)) (v := .slice (some ⟨b3, 0, none⟩) n n) hr6 (k := ?_)
      clear hr6
      have z10 := Nat.le_trans K.size g5
      replace K := K.trans (k8.any _)
      have ol9 : ∀ i, blk (some ⟨b3, 0, none⟩) = some i → w.heap.size ≤ i := fun i e => by cases e; exact z10
      refine WL.op (d := 11) (.agg #[.slice (some ⟨b3, 0, none⟩) n n, .slice none 0 0, .int .i64 0, .int .i64 0]) (k := ?_)
      refine WL.new (d := 12) (T := 54) #[.slice (some ⟨b3, 0, none⟩) n n, .slice none 0 0, .int .i64 0, .int .i64 0] (k := fun b11 w12 g13 hb14 k15 => ?_)
      have z16 := Nat.le_trans K.size g13
      have n17 := OwAt.off_new ho7 g13
      replace ho7 := ho7.adds k15
      replace K := K.trans (k15.any _)
      refine WL.op (d := 2) (.pointer (some ⟨b11, 0, none⟩)) (k := ?_)
      refine WL.nil ?_
      refine WX.seqN ?_
      refine WC.ret ?_
      refine WX.ret (rs := [.tmp 2]) [.pointer (some ⟨b11, 0, none⟩)] (.pointer (some ⟨b11, 0, none⟩)) ⟨(by kernel_rfl), trivial⟩ (k := ?_)
      have l_ : (GDisk.zero n).secs.length = n := by simp [GDisk.zero]
      exact ⟨_, _, rfl, z16, DiskAt.mk (d := GDisk.zero n) (by rw [l_]; exact hb14) ho7 OwAt.nil (GDisk.zero_ok (by omega)), zlink z16 ol9, K⟩
end Go.Proofs.YtnkkbeafcfjkmaaGreatDoor
namespace Go.Proofs.YtnkkbeafcfjkmaaGreatDoor
open Go.RowKit
set_option linter.unusedVariables false
set_option linter.unusedSimpArgs false
def GDisk.good (d : GDisk) : Prop := d.fail = 0 ∧ d.opn = []
def recS (s : List UInt8) (e i : Nat) : Prop := isCell s ∧ rdE s = e ∧ rdN s = i
namespace GDisk
section
variable {d : GDisk} {a : Int} {x : List UInt8}
theorem read_good (h : d.good) (ha : d.has a) : d.readE a = 0 ∧ d.readT a = d.secs.getD a.toNat [] ∧ d.readD a = ⟨d.secs, [], 0, IntKind.i64.wrap (d.reads + 1)⟩ := by
  obtain ⟨hf, ho⟩ := h
  obtain ⟨e1, e2, e3⟩ := read_ok ha (show ¬ d.fail = 1 by omega)
  refine ⟨e2, ?_, ?_⟩
  · rw [e1, at_, ho]; rfl
  · rw [e3, hf, ho]; rfl
theorem wrs_good (h : d.good) (ha : d.has a) (hx : x.length = 64) : d.wrsE a x = 0 ∧ d.wrsD a x = ⟨d.secs.set a.toNat x, [], 0, d.reads⟩ := by
  obtain ⟨hf, ho⟩ := h
  obtain ⟨e1, e2⟩ := write_ok (d := d) ⟨ha, hx⟩ (show ¬ d.fail = 1 by omega)
  obtain ⟨e3, e4⟩ := wrs_ok e1
  have h2 : (d.writeD a x) = ⟨d.secs, [(a, x)], 0, d.reads⟩ := by rw [e2, ho, hf]; rfl
  have hf2 : ¬ (d.writeD a x).fail = 1 := by rw [h2]; simp
  obtain ⟨e5, e6⟩ := flush_ok hf2
  refine ⟨by rw [e3, e5], ?_⟩
  rw [e4, e6, h2]; rfl
theorem recP_good (h : d.good) (ha : d.has a) {e i : Nat} : d.recP a e i ↔ recS (d.secs.getD a.toNat []) e i := by
  obtain ⟨e1, e2, e3⟩ := read_good h ha
  unfold recP recS
  rw [e1, e2]; simp
end
end GDisk
theorem recS_mk {p : List UInt8} {e n e' i : Nat} (hp : p.length ≤ 43) (he : e < 18446744073709551616) (hn : n < 18446744073709551616) : recS (makeS p e n) e' i ↔ e = e' ∧ n = i := by
  obtain ⟨h1, h2, h3, h4⟩ := rd_mk hp he hn
  unfold recS
  rw [h2, h3]
  exact ⟨fun k => k.2, fun k => ⟨of_decide_eq_true h4, k⟩⟩
theorem recS_zero {e i : Nat} (he : ¬ e = 0) : ¬ recS (List.replicate 64 0) e i := fun h => by
  have h2 := h.2.1
  rw [rdE, if_pos h.1] at h2
  have : epS (List.replicate 64 0) = 0 := by decide
  omega
end Go.Proofs.YtnkkbeafcfjkmaaGreatDoor
