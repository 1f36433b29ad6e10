/- Jl2l. -/
import Derived.Test.YtnndkgmcjbnfbaaGreatDoorPk6
import Derived.Test.YtnndkgmcjbnfbaaGreatDoorPkJl2
namespace Go.Proofs.YtnndkgmcjbnfbaaGreatDoor
open Go.RowKit
set_option linter.unusedVariables false
set_option linter.unusedSimpArgs false
set_option maxRecDepth 100000 in
set_option maxHeartbeats 4000000 in
theorem lJournalLinear_c (x k y : Int) (w : World) : Calls Tryz.prog 4 #[.int .i64 x, .int .i64 k, .int .i64 y] w fun e w' => e = .returned (.bool true) ∧ Adds w w' := by
  have K : Keeps (fun _ => False) w w := Keeps.refl _ w
  refine Calls.start Tryz.func4 rfl (by kernel_rfl) ?_
  refine WC.seq ?_
  refine WC.region ?_
  refine WL.op (d := 6) (.bool false) (k := ?_)
  refine WL.nil ?_
  refine WX.seqN ?_
  refine WC.seq ?_
  refine WC.region ?_
  refine WL.callG (d := 18) (f := 8) (args := #[]) (l08awake_c w) (k := fun e_ w1 h_ => ⟨.bool true, h_.1, ?_⟩)
  have k2 := h_.2; clear h_
  replace K := K.trans (k2.any _)
  refine WL.op (d := 7) (.bool true) (k := ?_)
  refine WL.nil ?_
  refine WX.seqN ?_
  refine WC.seq ?_
  refine WC.region ?_
  refine WL.op (d := 19) (.int .i64 k) (k := ?_)
  refine WL.bin (d := 20) (v := .int .i64 (bits BinOp.and IntKind.i64 k 3)) (bits_run (by decide)) (k := ?_)
  obtain ⟨m, hm, m0, m1⟩ : ∃ m : Nat, bits BinOp.and IntKind.i64 k 3 = (m : Int) - 1 ∧ 1 ≤ m ∧ m ≤ 4 := ⟨(bits BinOp.and IntKind.i64 k 3 + 1).toNat, by have := and3_eq (x := k); omega, by have := and3_eq (x := k); omega, by have := and3_eq (x := k); omega⟩
  refine WL.rw (t := 20) (v := .int .i64 ((m : Int) - 1)) (congrArg (Value.int .i64) hm) (k := ?_)
  refine WL.opE (d := 21) (.int .i64 (IntKind.i64.wrap (1 + ((m : Int) - 1)))) (v := .int .i64 (m : Int)) (congrArg (Value.int .i64) ((IntWalk.i64_in _ (by omega)).trans (by omega))) (k := ?_)
  refine WL.op (d := 8) (.int .i64 (m : Int)) (k := ?_)
  refine WL.nil ?_
  refine WX.seqN ?_
  refine WC.seq ?_
  refine WC.region ?_
  refine WL.op (d := 22) (.int .i64 (m : Int)) (k := ?_)
  refine WL.opE (d := 23) (.int .i64 (IntKind.i64.wrap (2 * (m : Int)))) (v := .int .i64 (2 * (m : Int))) (congrArg (Value.int .i64) (IntWalk.i64_in _ (by omega))) (k := ?_)
  refine WL.opE (d := 24) (.int .i64 (IntKind.i64.wrap ((2 * (m : Int)) + 1))) (v := .int .i64 ((2 * (m : Int)) + 1)) (congrArg (Value.int .i64) (IntWalk.i64_in _ (by omega))) (k := ?_)
  refine WL.op (d := 25) (.int .i64 x) (k := ?_)
  refine WL.bin (d := 26) (v := .int .i64 (Int.tmod x 20)) (rem_run (by omega)) (k := ?_)
  have m3 := tmod_rng x 20 (by omega)
  obtain ⟨r4, e5⟩ : ∃ r : Int, Int.tmod x 20 = r := ⟨_, rfl⟩
  rw [e5] at m3
  refine WL.rw (t := 26) (v := .int .i64 r4) (congrArg (Value.int .i64) e5) (k := ?_)
  refine WL.opE (d := 27) (.int .i64 (IntKind.i64.wrap (r4 + 20))) (v := .int .i64 (r4 + 20)) (congrArg (Value.int .i64) (IntWalk.i64_in _ (by omega))) (k := ?_)
  refine WL.bin (d := 28) (v := .int .i64 (Int.tmod (r4 + 20) 20)) (rem_run (by omega)) (k := ?_)
  have m6 := tmod_rng (r4 + 20) 20 (by omega)
  obtain ⟨r7, e8⟩ : ∃ r : Int, Int.tmod (r4 + 20) 20 = r := ⟨_, rfl⟩
  rw [e8] at m6
  refine WL.rw (t := 28) (v := .int .i64 r7) (congrArg (Value.int .i64) e8) (k := ?_)
  refine WL.opE (d := 29) (.int .i64 (IntKind.i64.wrap (((2 * (m : Int)) + 1) + r7))) (v := .int .i64 (((2 * (m : Int)) + 1) + r7)) (congrArg (Value.int .i64) (IntWalk.i64_in _ (by omega))) (k := ?_)
  refine WL.op (d := 9) (.int .i64 (((2 * (m : Int)) + 1) + r7)) (k := ?_)
  refine WL.nil ?_
  refine WX.seqN ?_
  refine WC.seq ?_
  obtain ⟨q, hq⟩ : ∃ q : Nat, ((2 * (m : Int)) + 1) + r7 = (q : Int) := ⟨Int.toNat (((2 * (m : Int)) + 1) + r7), by omega⟩
  refine WC.rw (t := 9) (v := .int .i64 (q : Int)) (congrArg (Value.int .i64) hq) (k := ?_)
  refine WC.region ?_
  refine WL.op (d := 30) (.int .i64 (q : Int)) (k := ?_)
  refine WL.callG (d := 31) (f := 9) (args := #[.int .i64 (q : Int)]) (dNew_ok (n := q) (by omega) (by omega) w1) (k := fun e_ w9 h_ => ?_)
  obtain ⟨b10, S11, rfl, g12, hd13, ho14, k15⟩ := h_
  refine ⟨_, rfl, ?_⟩
  have lk16 : ∀ k, S11 k → False ∨ w.heap.size ≤ k := fun k h => .inr (Nat.le_trans K.size (ho14 k h))
  have z17 := Nat.le_trans K.size g12
  replace K := K.trans (k15.any _)
  refine WL.op (d := 10) (.pointer (some ⟨b10, 0, none⟩)) (k := ?_)
  refine WL.nil ?_
  refine WX.seqN ?_
  refine WC.seq ?_
  refine WC.seq ?_
  refine WC.region ?_
  refine WL.op (d := 32) (.pointer (some ⟨b10, 0, none⟩)) (k := ?_)
  refine WL.op (d := 33) (.bool false) (k := ?_)
  refine WL.nil ?_
  refine WX.seqN ?_
  refine WC.condF (k := ?_)
  refine WC.skip ?_
  refine WX.seqN ?_
  refine WC.seq ?_
  refine WC.region ?_
  refine WL.op (d := 35) (.pointer (some ⟨b10, 0, none⟩)) (k := ?_)
  refine WL.op (d := 36) (.int .i64 (m : Int)) (k := ?_)
  refine WL.callG (d := 37) (f := 10) (args := #[.pointer (some ⟨b10, 0, none⟩), .int .i64 (m : Int), .string ⟨#[120]⟩]) (jg_format (k := m) (n := (q - 2 * m)) (m := q) (rd := 0) (l := [120]) (by omega) hd13 (by omega) (by omega) (by omega) (by omega) (by first | (simp; done) | (simp; omega))) (k := fun e_ w18 h_ => ?_)
  obtain ⟨jb19, rfl, S20, hd21, lk22, k23⟩ := h_
  refine ⟨_, rfl, ?_⟩
  have lk24 := lk_step lk16 lk22 K
  replace K := K.trans' k23 (fun i hi e => (lk16 i e).elim (fun h => h.elim) (fun h => absurd hi (Nat.not_lt.2 h)))
  clear hd13
  refine WL.op (d := 34) (.tuple #[.pointer (some ⟨jb19, 0, none⟩), .int .i64 0]) (k := ?_)
  refine WL.op (d := 38) (.pointer (some ⟨jb19, 0, none⟩)) (k := ?_)
  refine WL.op (d := 39) (.int .i64 0) (k := ?_)
  refine WL.op (d := 11) (.pointer (some ⟨jb19, 0, none⟩)) (k := ?_)
  refine WL.op (d := 12) (.int .i64 0) (k := ?_)
  refine WL.nil ?_
  refine WX.seqN ?_
  refine WC.seq ?_
  refine WC.seq ?_
  refine WC.region ?_
  refine WL.op (d := 40) (.int .i64 0) (k := ?_)
  refine WL.op (d := 41) (.bool false) (k := ?_)
  refine WL.nil ?_
  refine WX.seqN ?_
  refine WC.condF (k := ?_)
  refine WC.skip ?_
  refine WX.seqN ?_
  refine WC.seq ?_
  refine WC.region ?_
  refine WL.op (d := 42) (.int .i64 y) (k := ?_)
  refine WL.bin (d := 43) (v := .int .i64 (Int.tmod y 31)) (rem_run (by omega)) (k := ?_)
  have m25 := tmod_rng y 31 (by omega)
  obtain ⟨r26, e27⟩ : ∃ r : Int, Int.tmod y 31 = r := ⟨_, rfl⟩
  rw [e27] at m25
  refine WL.rw (t := 43) (v := .int .i64 r26) (congrArg (Value.int .i64) e27) (k := ?_)
  refine WL.opE (d := 44) (.int .i64 (IntKind.i64.wrap (r26 + 31))) (v := .int .i64 (r26 + 31)) (congrArg (Value.int .i64) (IntWalk.i64_in _ (by omega))) (k := ?_)
  refine WL.bin (d := 45) (v := .int .i64 (Int.tmod (r26 + 31) 31)) (rem_run (by omega)) (k := ?_)
  have m28 := tmod_rng (r26 + 31) 31 (by omega)
  obtain ⟨r29, e30⟩ : ∃ r : Int, Int.tmod (r26 + 31) 31 = r := ⟨_, rfl⟩
  rw [e30] at m28
  refine WL.rw (t := 45) (v := .int .i64 r29) (congrArg (Value.int .i64) e30) (k := ?_)
  refine WL.op (d := 13) (.int .i64 r29) (k := ?_)
  refine WL.nil ?_
  refine WX.seqN ?_
  refine WC.seq ?_
  refine WC.seq ?_
  refine WC.region ?_
  refine WL.op (d := 14) (.int .i64 0) (k := ?_)
  refine WL.nil ?_
  refine WX.seqN ?_
  refine WC.block ?_
  refine WC.loop (ι := Int × (List (List UInt8)) × (Nat → Prop)) (fun (⟨i, xs, Si⟩ : Int × (List (List UInt8)) × (Nat → Prop)) => [(0, .int .i64 x), (1, .int .i64 k), (2, .int .i64 y), (6, .bool false), (18, .bool true), (7, .bool true), (19, .int .i64 k), (20, .int .i64 ((m : Int) - 1)), (21, .int .i64 (m : Int)), (8, .int .i64 (m : Int)), (22, .int .i64 (m : Int)), (23, .int .i64 (2 * (m : Int))), (24, .int .i64 ((2 * (m : Int)) + 1)), (25, .int .i64 x), (26, .int .i64 r4), (27, .int .i64 (r4 + 20)), (28, .int .i64 r7), (29, .int .i64 (((2 * (m : Int)) + 1) + r7)), (9, .int .i64 (q : Int)), (30, .int .i64 (q : Int)), (31, .pointer (some ⟨b10, 0, none⟩)), (10, .pointer (some ⟨b10, 0, none⟩)), (32, .pointer (some ⟨b10, 0, none⟩)), (33, .bool false), (35, .pointer (some ⟨b10, 0, none⟩)), (36, .int .i64 (m : Int)), (37, .tuple #[.pointer (some ⟨jb19, 0, none⟩), .int .i64 0]), (34, .tuple #[.pointer (some ⟨jb19, 0, none⟩), .int .i64 0]), (38, .pointer (some ⟨jb19, 0, none⟩)), (39, .int .i64 0), (11, .pointer (some ⟨jb19, 0, none⟩)), (12, .int .i64 0), (40, .int .i64 0), (41, .bool false), (42, .int .i64 y), (43, .int .i64 r26), (44, .int .i64 (r26 + 31)), (45, .int .i64 r29), (13, .int .i64 r29), (14, .int .i64 i)]) (fun (⟨i, xs, Si⟩ : Int × (List (List UInt8)) × (Nat → Prop)) (w_ : World) => (Keeps (fun _ => False) w w_) ∧ (JgAt Si b10 (⟨m, (q - 2 * m), 1, jb19, 0, (rcN 0 (2 * m)), 1, [120], xs⟩ : JG) w_) ∧ (∀ k, Si k → (fun _ => False) k ∨ w.heap.size ≤ k) ∧ (0 ≤ i) ∧ (i ≤ r29) ∧ ((xs.length : Int) = i ∨ (xs.length = q - 2 * m ∧ (xs.length : Int) ≤ i))) (fun (⟨i, xs, Si⟩ : Int × (List (List UInt8)) × (Nat → Prop)) => (100 - i).toNat) (0, [], S20) ⟨(by kernel_rfl), (by kernel_rfl), (by kernel_rfl), (by kernel_rfl), (by kernel_rfl), (by kernel_rfl), (by kernel_rfl), (by kernel_rfl), (by kernel_rfl), (by kernel_rfl), (by kernel_rfl), (by kernel_rfl), (by kernel_rfl), (by kernel_rfl), (by kernel_rfl), (by kernel_rfl), (by kernel_rfl), (by kernel_rfl), (by kernel_rfl), (by kernel_rfl), (by kernel_rfl), (by kernel_rfl), (by kernel_rfl), (by kernel_rfl), (by kernel_rfl), (by kernel_rfl), (by kernel_rfl), (by kernel_rfl), (by kernel_rfl), (by kernel_rfl), (by kernel_rfl), (by kernel_rfl), (by kernel_rfl), (by kernel_rfl), (by kernel_rfl), (by kernel_rfl), (by kernel_rfl), (by kernel_rfl), (by kernel_rfl), (by kernel_rfl), trivial⟩ ⟨K, hd21, lk24, Int.le_refl 0, (by omega), (by simp)⟩ ?_
  rintro ⟨i, xs, Si⟩ w31 ⟨K, hb32, lk33, i0, i1, hx⟩
  have hc_ : xs.length ≤ (q - 2 * m) := hb32.cnt
  refine WC.seq ?_
  refine WC.seq ?_
  refine WC.region ?_
  refine WL.op (d := 46) (.int .i64 i) (k := ?_)
  refine WL.op (d := 47) (.int .i64 r29) (k := ?_)
  refine WL.op (d := 48) (.bool (decide (i < r29))) (k := ?_)
  refine WL.nil ?_
  refine WX.seqN ?_
  refine WC.cond (b := decide (i < r29)) (ht := fun h34 => ?_) (hf := fun h34 => ?_)
  · have ph34 := of_decide_eq_true h34
    refine WC.skip ?_
    refine WX.seqN ?_
    refine WC.seq ?_
    refine WC.block ?_
    refine WC.region ?_
    refine WL.op (d := 51) (.pointer (some ⟨jb19, 0, none⟩)) (k := ?_)
    refine bsplit (decide ((List.length xs) < (q - 2 * m))) (fun h35 => ?_) (fun h35 => ?_)
    · have ph35 := of_decide_eq_true h35
      refine WL.callG (d := 52) (f := 11) (args := #[.pointer (some ⟨jb19, 0, none⟩), .string ⟨#[114]⟩]) (jg_app (R := 0) (ys := xs ++ [[114]]) (l := [114]) hb32 (by first | omega | (simp; done)) (.inl ⟨ph35, rfl, rfl⟩)) (k := fun e_ w37 h_ => ?_)
      obtain ⟨rfl, S38, hd39, lk40, k41⟩ := h_
      refine ⟨_, rfl, ?_⟩
      have lk42 := lk_step lk33 lk40 K
      replace K := K.trans' k41 (fun i hi e => (lk33 i e).elim (fun h => h.elim) (fun h => absurd hi (Nat.not_lt.2 h)))
      clear hb32
      have la36 : List.length (xs ++ [[114]]) = List.length xs + 1 := by simp
      refine WL.nil ?_
      refine WX.blockN ?_
      refine WX.seqN ?_
      refine WC.region ?_
      refine WL.op (d := 49) (.int .i64 i) (k := ?_)
      refine WL.opE (d := 50) (.int .i64 (IntKind.i64.wrap (i + 1))) (v := .int .i64 (i + 1)) (congrArg (Value.int .i64) (IntWalk.i64_in _ (by omega))) (k := ?_)
      refine WL.op (d := 14) (.int .i64 (i + 1)) (k := ?_)
      refine WL.nil ?_
      refine WX.round (i + 1, xs ++ [[114]], S38) (by show (100 - (i + 1)).toNat < (100 - i).toNat; omega) ⟨(by kernel_rfl), (by kernel_rfl), (by kernel_rfl), (by kernel_rfl), (by kernel_rfl), (by kernel_rfl), (by kernel_rfl), (by kernel_rfl), (by kernel_rfl), (by kernel_rfl), (by kernel_rfl), (by kernel_rfl), (by kernel_rfl), (by kernel_rfl), (by kernel_rfl), (by kernel_rfl), (by kernel_rfl), (by kernel_rfl), (by kernel_rfl), (by kernel_rfl), (by kernel_rfl), (by kernel_rfl), (by kernel_rfl), (by kernel_rfl), (by kernel_rfl), (by kernel_rfl), (by kernel_rfl), (by kernel_rfl), (by kernel_rfl), (by kernel_rfl), (by kernel_rfl), (by kernel_rfl), (by kernel_rfl), (by kernel_rfl), (by kernel_rfl), (by kernel_rfl), (by kernel_rfl), (by kernel_rfl), (by kernel_rfl), (by kernel_rfl), trivial⟩ ⟨K, hd39, lk42, (by omega), (by omega), (by omega)⟩
    · have ph35 := of_decide_eq_false h35
      refine WL.callG (d := 52) (f := 11) (args := #[.pointer (some ⟨jb19, 0, none⟩), .string ⟨#[114]⟩]) (jg_app (R := 22) (ys := xs) (l := [114]) hb32 (by first | omega | (simp; done)) (.inr ⟨ph35, rfl, rfl⟩)) (k := fun e_ w43 h_ => ?_)
      obtain ⟨rfl, S44, hd45, lk46, k47⟩ := h_
      refine ⟨_, rfl, ?_⟩
      have lk48 := lk_step lk33 lk46 K
      replace K := K.trans' k47 (fun i hi e => (lk33 i e).elim (fun h => h.elim) (fun h => absurd hi (Nat.not_lt.2 h)))
      clear hb32
      refine WL.nil ?_
      refine WX.blockN ?_
      refine WX.seqN ?_
      refine WC.region ?_
      refine WL.op (d := 49) (.int .i64 i) (k := ?_)
      refine WL.opE (d := 50) (.int .i64 (IntKind.i64.wrap (i + 1))) (v := .int .i64 (i + 1)) (congrArg (Value.int .i64) (IntWalk.i64_in _ (by omega))) (k := ?_)
      refine WL.op (d := 14) (.int .i64 (i + 1)) (k := ?_)
      refine WL.nil ?_
      refine WX.round (i + 1, xs, S44) (by show (100 - (i + 1)).toNat < (100 - i).toNat; omega) ⟨(by kernel_rfl), (by kernel_rfl), (by kernel_rfl), (by kernel_rfl), (by kernel_rfl), (by kernel_rfl), (by kernel_rfl), (by kernel_rfl), (by kernel_rfl), (by kernel_rfl), (by kernel_rfl), (by kernel_rfl), (by kernel_rfl), (by kernel_rfl), (by kernel_rfl), (by kernel_rfl), (by kernel_rfl), (by kernel_rfl), (by kernel_rfl), (by kernel_rfl), (by kernel_rfl), (by kernel_rfl), (by kernel_rfl), (by kernel_rfl), (by kernel_rfl), (by kernel_rfl), (by kernel_rfl), (by kernel_rfl), (by kernel_rfl), (by kernel_rfl), (by kernel_rfl), (by kernel_rfl), (by kernel_rfl), (by kernel_rfl), (by kernel_rfl), (by kernel_rfl), (by kernel_rfl), (by kernel_rfl), (by kernel_rfl), (by kernel_rfl), trivial⟩ ⟨K, hd45, lk48, (by omega), (by omega), (by omega)⟩
  · have ph34 := of_decide_eq_false h34
    refine WC.exit ?_
    refine WX.seqE ?_
    refine WX.seqE ?_
    refine WX.blockE ?_
    refine WX.seqN ?_
    refine WC.seq ?_
    refine WC.region ?_
    refine WL.op (d := 53) (.pointer (some ⟨b10, 0, none⟩)) (k := ?_)
    refine WL.callG (d := 54) (f := 14) (args := #[.pointer (some ⟨b10, 0, none⟩), .slice none 0 0]) (jg_crash0 hb32) (k := fun e_ w49 h_ => ?_)
    obtain ⟨rfl, S50, hd51, lk52, k53⟩ := h_
    refine ⟨_, rfl, ?_⟩
    have lk54 := lk_step lk33 lk52 K
    replace K := K.trans' k53 (fun i hi e => (lk33 i e).elim (fun h => h.elim) (fun h => absurd hi (Nat.not_lt.2 h)))
    clear hb32
    refine WL.nil ?_
    refine WX.seqN ?_
    refine WC.seq ?_
    have ho_ : opsJ m (q - 2 * m) xs = 2 * m + min (List.length xs + 1) (q - 2 * m) := rfl
    have rc_ := rcN_eq (opsJ m (q - 2 * m) xs) 0 (by decide) (by omega)
    refine WC.region ?_
    refine WL.op (d := 56) (.pointer (some ⟨b10, 0, none⟩)) (k := ?_)
    refine WL.op (d := 57) (.int .i64 (m : Int)) (k := ?_)
    refine WL.callG (d := 58) (f := 13) (args := #[.pointer (some ⟨b10, 0, none⟩), .int .i64 (m : Int)]) (jg_open (k := m) hd51 (.inl rfl)) (k := fun e_ w55 h_ => ?_)
    obtain ⟨jb56, A57, c58, S59, rfl, hd60, ho61, ol62, n63, lk64, k65⟩ := h_
    refine ⟨_, rfl, ?_⟩
    have ol66 := fun i h => Nat.le_trans K.size (ol62 i h)
    have lk67 := lk_step lk54 lk64 K
    replace K := K.trans' k65 (fun i hi e => (lk54 i e).elim (fun h => h.elim) (fun h => absurd hi (Nat.not_lt.2 h)))
    clear hd51
    change JgAt S59 b10 (⟨m, (q - 2 * m), 1, jb56, 0, (rcN 0 (opsJ m (q - 2 * m) xs)), 1, [120], xs⟩ : JG) w55 at hd60
    refine WL.op (d := 55) (.tuple #[.pointer (some ⟨jb56, 0, none⟩), .agg #[.string ⟨#[120]⟩, .slice A57 (List.length xs) c58], .int .i64 0]) (k := ?_)
    refine WL.op (d := 59) (.pointer (some ⟨jb56, 0, none⟩)) (k := ?_)
    refine WL.op (d := 60) (.agg #[.string ⟨#[120]⟩, .slice A57 (List.length xs) c58]) (k := ?_)
    refine WL.op (d := 61) (.int .i64 0) (k := ?_)
    refine WL.new (d := 16) (T := 33) #[.string ⟨#[]⟩, .slice none 0 0] (k := fun b68 w69 g70 hb71 k72 => ?_)
    have z73 := Nat.le_trans K.size g70
    have n74 : ¬ S59 b68 := fun h => absurd (hd60.lt _ h) (Nat.not_lt.2 g70)
    have n75 := OwAt.off_new ho61 g70
    replace hd60 := hd60.adds k72
    replace ho61 := ho61.adds k72
    replace K := K.trans (k72.any _)
    refine WL.op (d := 15) (.pointer (some ⟨jb56, 0, none⟩)) (k := ?_)
    refine WL.store (v := .agg #[.string ⟨#[120]⟩, .slice A57 (List.length xs) c58]) (i := 0) (cs' := #[.string ⟨#[120]⟩, .slice A57 (List.length xs) c58]) hb71 (k := fun w76 hb77 k78 => ?_)
    replace hd60 := hd60.keeps k78 (fun i hi e => n74 (e ▸ hi))
    replace ho61 := ho61.keeps k78 (fun i hi e => (n75) (e ▸ hi))
    replace K := K.trans' k78 (fun i hi e => absurd (e ▸ hi) (Nat.not_lt.2 z73))
    clear hb71
    refine WL.op (d := 17) (.int .i64 0) (k := ?_)
    refine WL.nil ?_
    refine WX.seqN ?_
    refine WC.seq ?_
    refine WC.region ?_
    refine WL.op (d := 62) (.bool true) (k := ?_)
    refine WL.op (d := 63) (.bool true) (k := ?_)
    refine WL.op (d := 64) (.int .i64 0) (k := ?_)
    refine WL.op (d := 65) (.bool true) (k := ?_)
    refine WL.op (d := 66) (.bool true) (k := ?_)
    refine WL.op (d := 67) (.bool true) (k := ?_)
    refine WL.op (d := 68) (.pointer (some ⟨b68, 1, none⟩)) (k := ?_)
    refine WL.load (v := .slice A57 (List.length xs) c58) (ld1 (T := 31) (i := 1) hb77) (k := ?_)
    refine WL.op (d := 70) (.int .i64 ((List.length xs) : Int)) (k := ?_)
    refine WL.op (d := 71) (.int .i64 r29) (k := ?_)
    refine WL.op (d := 72) (.int .i64 (q : Int)) (k := ?_)
    refine WL.op (d := 73) (.int .i64 (m : Int)) (k := ?_)
    refine WL.opE (d := 74) (.int .i64 (IntKind.i64.wrap (2 * (m : Int)))) (v := .int .i64 (2 * (m : Int))) (congrArg (Value.int .i64) (IntWalk.i64_in _ (by omega))) (k := ?_)
    refine WL.opE (d := 75) (.int .i64 (IntKind.i64.wrap ((q : Int) - (2 * (m : Int))))) (v := .int .i64 ((q : Int) - (2 * (m : Int)))) (congrArg (Value.int .i64) (IntWalk.i64_in _ (by omega))) (k := ?_)
    refine WL.op (d := 76) (.int .i64 (if ((q : Int) - (2 * (m : Int))) < r29 then ((q : Int) - (2 * (m : Int))) else r29)) (k := ?_)
    refine WL.op (d := 77) (.bool (((List.length xs) : Int) == (if ((q : Int) - (2 * (m : Int))) < r29 then ((q : Int) - (2 * (m : Int))) else r29))) (k := ?_)
    refine WL.op (d := 78) (.bool (((List.length xs) : Int) == (if ((q : Int) - (2 * (m : Int))) < r29 then ((q : Int) - (2 * (m : Int))) else r29))) (k := ?_)
    refine WL.op (d := 79) (.bool (((List.length xs) : Int) == (if ((q : Int) - (2 * (m : Int))) < r29 then ((q : Int) - (2 * (m : Int))) else r29))) (k := ?_)
    refine bsplit (((List.length xs) : Int) == (if ((q : Int) - (2 * (m : Int))) < r29 then ((q : Int) - (2 * (m : Int))) else r29)) (fun h79 => ?_) (fun h79 => ?_)
    · have ph79 := eq_of_beq h79
      refine WL.rw (t := 79) (v := .bool true) (congrArg Value.bool h79) (k := ?_)
      refine WL.op (d := 80) (.pointer (some ⟨b10, 0, none⟩)) (k := ?_)
      refine WL.callG (d := 81) (f := 15) (args := #[.pointer (some ⟨b10, 0, none⟩)]) (jg_reads hd60) (k := fun e_ w80 h_ => ⟨.int .i64 (rcN 0 (opsJ m (q - 2 * m) xs)), h_.1, ?_⟩)
      have k81 := h_.2; clear h_
      replace hd60 := hd60.adds k81
      replace ho61 := ho61.adds k81
      replace hb77 := k81.heap hb77 id
      replace K := K.trans (k81.any _)
      refine WL.op (d := 82) (.int .i64 (q : Int)) (k := ?_)
      refine WL.op (d := 83) (.bool (decide ((rcN 0 (opsJ m (q - 2 * m) xs)) ≤ (q : Int)))) (k := ?_)
      refine WL.op (d := 84) (.bool (decide ((rcN 0 (opsJ m (q - 2 * m) xs)) ≤ (q : Int)))) (k := ?_)
      refine WL.op (d := 85) (.bool (decide ((rcN 0 (opsJ m (q - 2 * m) xs)) ≤ (q : Int)))) (k := ?_)
      refine bsplit (decide ((rcN 0 (opsJ m (q - 2 * m) xs)) ≤ (q : Int))) (fun h82 => ?_) (fun h82 => ?_)
      · have ph82 := of_decide_eq_true h82
        refine WL.rw (t := 85) (v := .bool true) (congrArg Value.bool h82) (k := ?_)
        refine WL.op (d := 86) (.pointer (some ⟨b10, 0, none⟩)) (k := ?_)
        refine WL.callG (d := 87) (f := 15) (args := #[.pointer (some ⟨b10, 0, none⟩)]) (jg_reads hd60) (k := fun e_ w83 h_ => ⟨.int .i64 (rcN 0 (opsJ m (q - 2 * m) xs)), h_.1, ?_⟩)
        have k84 := h_.2; clear h_
        replace hd60 := hd60.adds k84
        replace ho61 := ho61.adds k84
        replace hb77 := k84.heap hb77 id
        replace K := K.trans (k84.any _)
        refine WL.op (d := 88) (.int .i64 (m : Int)) (k := ?_)
        refine WL.opE (d := 89) (.int .i64 (IntKind.i64.wrap (2 * (m : Int)))) (v := .int .i64 (2 * (m : Int))) (congrArg (Value.int .i64) (IntWalk.i64_in _ (by omega))) (k := ?_)
        refine WL.op (d := 90) (.bool (decide ((rcN 0 (opsJ m (q - 2 * m) xs)) ≥ (2 * (m : Int))))) (k := ?_)
        refine WL.op (d := 91) (.bool (decide ((rcN 0 (opsJ m (q - 2 * m) xs)) ≥ (2 * (m : Int))))) (k := ?_)
        refine WL.op (d := 6) (.bool (decide ((rcN 0 (opsJ m (q - 2 * m) xs)) ≥ (2 * (m : Int))))) (k := ?_)
        refine WL.nil ?_
        refine WX.seqN ?_
        refine WC.ret ?_
        refine WX.ret (rs := [.tmp 6]) [.bool (decide ((rcN 0 (opsJ m (q - 2 * m) xs)) ≥ (2 * (m : Int))))] (.bool (decide ((rcN 0 (opsJ m (q - 2 * m) xs)) ≥ (2 * (m : Int))))) ⟨(by kernel_rfl), trivial⟩ (k := ?_)
        exact ⟨ret_bool (by first | (simp; done) | (simp; omega)), K⟩
      · have ph82 := of_decide_eq_false h82
        refine WL.rw (t := 85) (v := .bool false) (congrArg Value.bool h82) (k := ?_)
        refine WL.skip (d := 86) (k := ?_)
        refine WL.skip (d := 87) (k := ?_)
        refine WL.skip (d := 88) (k := ?_)
        refine WL.skip (d := 89) (k := ?_)
        refine WL.skip (d := 90) (k := ?_)
        refine WL.op (d := 91) (.bool false) (k := ?_)
        refine WL.op (d := 6) (.bool false) (k := ?_)
        refine WL.nil ?_
        refine WX.seqN ?_
        refine WC.ret ?_
        refine WX.ret (rs := [.tmp 6]) [.bool false] (.bool false) ⟨(by kernel_rfl), trivial⟩ (k := ?_)
        exfalso; first | omega | (simp at *; done) | (simp at *; omega)
    · have ph79 := ne_of_beq_false h79
      refine WL.rw (t := 79) (v := .bool false) (congrArg Value.bool h79) (k := ?_)
      refine WL.skip (d := 80) (k := ?_)
      refine WL.skip (d := 81) (k := ?_)
      refine WL.skip (d := 82) (k := ?_)
      refine WL.skip (d := 83) (k := ?_)
      refine WL.op (d := 84) (.bool false) (k := ?_)
      refine WL.op (d := 85) (.bool false) (k := ?_)
      refine WL.skip (d := 86) (k := ?_)
      refine WL.skip (d := 87) (k := ?_)
      refine WL.skip (d := 88) (k := ?_)
      refine WL.skip (d := 89) (k := ?_)
      refine WL.skip (d := 90) (k := ?_)
      refine WL.op (d := 91) (.bool false) (k := ?_)
      refine WL.op (d := 6) (.bool false) (k := ?_)
      refine WL.nil ?_
      refine WX.seqN ?_
      refine WC.ret ?_
      refine WX.ret (rs := [.tmp 6]) [.bool false] (.bool false) ⟨(by kernel_rfl), trivial⟩ (k := ?_)
      exfalso; first | omega | (simp at *; done) | (simp at *; omega)
end Go.Proofs.YtnndkgmcjbnfbaaGreatDoor
