/- Ln24, Gbw, Ln21, Sc2b, Ln22, Ln23, Ln25, Gbb, Args0, SlArgs, OpArgs, CmdArgs: one behind the other. -/
import Derived.Test.YtoeinhlmkpgjhaaDoorPb3
namespace Go.Proofs.YtoeinhlmkpgjhaaDoor
open Go.RowKit
set_option linter.unusedVariables false
set_option linter.unusedSimpArgs false
theorem wrN_rng {i : Int} (h0 : 0 ≤ i) (h : i ≤ 9) : 0 ≤ wrN i ∧ wrN i ≤ 9 := by
  unfold wrN
  have h1 := List.length_filterMap_le (fun x => (lineC x).join) (wrU i)
  have h2 := wrU_len h0
  unfold gotL
  omega
set_option maxRecDepth 100000 in
set_option maxHeartbeats 4000000 in
theorem linesWrong_any {n wh : Int} {w : World} (hG : GB w) : Calls Tryd.prog 3 #[.int .i64 n, .int .i64 wh] w fun e w' => e = .returned (.bool true) ∧ Adds w w' := by
  have K : Keeps (fun _ => False) w w := Keeps.refl _ w
  refine Calls.start Tryd.func3 rfl (by kernel_rfl) ?_
  refine WC.seq ?_
  refine WC.region ?_
  refine WL.op (d := 4) (.bool false) (k := ?_)
  refine WL.nil ?_
  refine WX.seqN ?_
  refine WC.seq ?_
  refine WC.region ?_
  refine WL.callG (d := 16) (f := 6) (args := #[]) (l25awake_c (hG.keeps K (fun _ _ x => x))) (k := fun e_ w1 h_ => ⟨.bool true, h_.1, ?_⟩)
  have k2 := h_.2; clear h_
  replace K := K.trans (k2.any _)
  refine WL.op (d := 5) (.bool true) (k := ?_)
  refine WL.nil ?_
  refine WX.seqN ?_
  refine WC.seq ?_
  refine WC.region ?_
  refine WL.op (d := 17) (.agg #[.string ⟨#[97, 100, 109, 105, 116]⟩, .string ⟨#[97, 100, 109, 105, 116, 32, 49, 58, 50, 47, 49, 47, 49, 48, 47, 49, 53]⟩, .string ⟨#[115, 101, 114, 118, 101, 32, 49, 58, 50, 47, 53, 47, 49, 48, 47, 49, 53]⟩, .string ⟨#[116, 105, 99, 107, 32, 48, 49]⟩, .string ⟨#[99, 114, 97, 115, 104, 32, 116, 111, 114, 110]⟩, .string ⟨#[99, 114, 97, 115, 104, 32, 116, 111, 114, 110, 32, 54, 53]⟩, .string ⟨#[114, 101, 109, 111, 118, 101, 32, 49, 48, 50, 52]⟩, .string ⟨#[83, 116, 97, 114, 116]⟩]) (k := ?_)
  refine WL.new (d := 6) (T := 23) #[.string ⟨#[]⟩, .string ⟨#[]⟩, .string ⟨#[]⟩, .string ⟨#[]⟩, .string ⟨#[]⟩, .string ⟨#[]⟩, .string ⟨#[]⟩, .string ⟨#[]⟩] (k := fun b3 w4 g5 hb6 k7 => ?_)
  have z8 := Nat.le_trans K.size g5
  replace K := K.trans (k7.any _)
  refine WL.store (v := .agg #[.string ⟨#[97, 100, 109, 105, 116]⟩, .string ⟨#[97, 100, 109, 105, 116, 32, 49, 58, 50, 47, 49, 47, 49, 48, 47, 49, 53]⟩, .string ⟨#[115, 101, 114, 118, 101, 32, 49, 58, 50, 47, 53, 47, 49, 48, 47, 49, 53]⟩, .string ⟨#[116, 105, 99, 107, 32, 48, 49]⟩, .string ⟨#[99, 114, 97, 115, 104, 32, 116, 111, 114, 110]⟩, .string ⟨#[99, 114, 97, 115, 104, 32, 116, 111, 114, 110, 32, 54, 53]⟩, .string ⟨#[114, 101, 109, 111, 118, 101, 32, 49, 48, 50, 52]⟩, .string ⟨#[83, 116, 97, 114, 116]⟩]) (i := 0) (cs' := #[.string ⟨#[97, 100, 109, 105, 116]⟩, .string ⟨#[97, 100, 109, 105, 116, 32, 49, 58, 50, 47, 49, 47, 49, 48, 47, 49, 53]⟩, .string ⟨#[115, 101, 114, 118, 101, 32, 49, 58, 50, 47, 53, 47, 49, 48, 47, 49, 53]⟩, .string ⟨#[116, 105, 99, 107, 32, 48, 49]⟩, .string ⟨#[99, 114, 97, 115, 104, 32, 116, 111, 114, 110]⟩, .string ⟨#[99, 114, 97, 115, 104, 32, 116, 111, 114, 110, 32, 54, 53]⟩, .string ⟨#[114, 101, 109, 111, 118, 101, 32, 49, 48, 50, 52]⟩, .string ⟨#[83, 116, 97, 114, 116]⟩]) hb6 (k := fun w9 hb10 k11 => ?_)
  replace K := K.trans' k11 (fun i hi e => absurd (e ▸ hi) (Nat.not_lt.2 z8))
  clear hb6
  refine WL.nil ?_
  refine WX.seqN ?_
  refine WC.seq ?_
  refine WC.region ?_
  refine WL.op (d := 18) (.agg #[.string ⟨#[116, 105, 99, 107, 32, 51]⟩, .string ⟨#[]⟩, .string ⟨#[59, 32, 120]⟩, .string ⟨#[114, 101, 115, 105, 122, 101, 32, 49, 32, 50]⟩]) (k := ?_)
  refine WL.new (d := 7) (T := 24) #[.string ⟨#[]⟩, .string ⟨#[]⟩, .string ⟨#[]⟩, .string ⟨#[]⟩] (k := fun b12 w13 g14 hb15 k16 => ?_)
  have z17 := Nat.le_trans K.size g14
  have n18 : b3 ≠ b12 := Nat.ne_of_lt (Nat.lt_of_lt_of_le (lt_of_heap hb10) g14)
  replace hb10 := k16.heap hb10 id
  replace K := K.trans (k16.any _)
  refine WL.store (v := .agg #[.string ⟨#[116, 105, 99, 107, 32, 51]⟩, .string ⟨#[]⟩, .string ⟨#[59, 32, 120]⟩, .string ⟨#[114, 101, 115, 105, 122, 101, 32, 49, 32, 50]⟩]) (i := 0) (cs' := #[.string ⟨#[116, 105, 99, 107, 32, 51]⟩, .string ⟨#[]⟩, .string ⟨#[59, 32, 120]⟩, .string ⟨#[114, 101, 115, 105, 122, 101, 32, 49, 32, 50]⟩]) hb15 (k := fun w19 hb20 k21 => ?_)
  replace hb10 := k21.heap hb10 n18
  replace K := K.trans' k21 (fun i hi e => absurd (e ▸ hi) (Nat.not_lt.2 z17))
  clear hb15
  refine WL.nil ?_
  refine WX.seqN ?_
  refine WC.seq ?_
  refine WC.region ?_
  refine WL.op (d := 19) (.int .i64 n) (k := ?_)
  refine WL.bin (d := 20) (v := .int .i64 (Int.tmod n 10)) (rem_run (by omega)) (k := ?_)
  have m22 := tmod_rng n 10 (by omega)
  obtain ⟨r23, e24⟩ : ∃ r : Int, Int.tmod n 10 = r := ⟨_, rfl⟩
  rw [e24] at m22
  refine WL.rw (t := 20) (v := .int .i64 r23) (congrArg (Value.int .i64) e24) (k := ?_)
  refine WL.opE (d := 21) (.int .i64 (IntKind.i64.wrap (r23 + 10))) (v := .int .i64 (r23 + 10)) (congrArg (Value.int .i64) (IntWalk.i64_in _ (by omega))) (k := ?_)
  refine WL.bin (d := 22) (v := .int .i64 (Int.tmod (r23 + 10) 10)) (rem_run (by omega)) (k := ?_)
  have m25 := tmod_rng (r23 + 10) 10 (by omega)
  obtain ⟨r26, e27⟩ : ∃ r : Int, Int.tmod (r23 + 10) 10 = r := ⟨_, rfl⟩
  rw [e27] at m25
  refine WL.rw (t := 22) (v := .int .i64 r26) (congrArg (Value.int .i64) e27) (k := ?_)
  refine WL.op (d := 8) (.int .i64 r26) (k := ?_)
  refine WL.nil ?_
  refine WX.seqN ?_
  refine WC.seq ?_
  refine WC.region ?_
  refine WL.op (d := 9) (.string ⟨#[]⟩) (k := ?_)
  refine WL.nil ?_
  refine WX.seqN ?_
  refine WC.seq ?_
  refine WC.region ?_
  refine WL.op (d := 10) (.int .i64 0) (k := ?_)
  refine WL.nil ?_
  refine WX.seqN ?_
  refine WC.seq ?_
  refine WC.seq ?_
  refine WC.region ?_
  refine WL.op (d := 11) (.int .i64 0) (k := ?_)
  refine WL.nil ?_
  refine WX.seqN ?_
  refine WC.block ?_
  refine WC.rw (t := 9) (v := .string ⟨(lnT (wrU 0)).toArray⟩) (congrArg (fun l : List UInt8 => Value.string ⟨l.toArray⟩) (show [] = lnT (wrU 0) from rfl)) (k := ?_)
  refine WC.rw (t := 10) (v := .int .i64 (wrN 0)) (congrArg (Value.int .i64) wrN_zero.symm) (k := ?_)
  refine WC.loop (ι := Int) (fun (i : Int) => [(0, .int .i64 n), (1, .int .i64 wh), (4, .bool false), (16, .bool true), (5, .bool true), (17, .agg #[.string ⟨#[97, 100, 109, 105, 116]⟩, .string ⟨#[97, 100, 109, 105, 116, 32, 49, 58, 50, 47, 49, 47, 49, 48, 47, 49, 53]⟩, .string ⟨#[115, 101, 114, 118, 101, 32, 49, 58, 50, 47, 53, 47, 49, 48, 47, 49, 53]⟩, .string ⟨#[116, 105, 99, 107, 32, 48, 49]⟩, .string ⟨#[99, 114, 97, 115, 104, 32, 116, 111, 114, 110]⟩, .string ⟨#[99, 114, 97, 115, 104, 32, 116, 111, 114, 110, 32, 54, 53]⟩, .string ⟨#[114, 101, 109, 111, 118, 101, 32, 49, 48, 50, 52]⟩, .string ⟨#[83, 116, 97, 114, 116]⟩]), (6, .pointer (some ⟨b3, 0, none⟩)), (18, .agg #[.string ⟨#[116, 105, 99, 107, 32, 51]⟩, .string ⟨#[]⟩, .string ⟨#[59, 32, 120]⟩, .string ⟨#[114, 101, 115, 105, 122, 101, 32, 49, 32, 50]⟩]), (7, .pointer (some ⟨b12, 0, none⟩)), (19, .int .i64 n), (20, .int .i64 r23), (21, .int .i64 (r23 + 10)), (22, .int .i64 r26), (8, .int .i64 r26), (9, .string ⟨(lnT (wrU i)).toArray⟩), (10, .int .i64 (wrN i)), (11, .int .i64 i)]) (fun (i : Int) (w_ : World) => (Keeps (fun _ => False) w w_) ∧ (w_.heap[b3]? = some (.cells #[.string ⟨#[97, 100, 109, 105, 116]⟩, .string ⟨#[97, 100, 109, 105, 116, 32, 49, 58, 50, 47, 49, 47, 49, 48, 47, 49, 53]⟩, .string ⟨#[115, 101, 114, 118, 101, 32, 49, 58, 50, 47, 53, 47, 49, 48, 47, 49, 53]⟩, .string ⟨#[116, 105, 99, 107, 32, 48, 49]⟩, .string ⟨#[99, 114, 97, 115, 104, 32, 116, 111, 114, 110]⟩, .string ⟨#[99, 114, 97, 115, 104, 32, 116, 111, 114, 110, 32, 54, 53]⟩, .string ⟨#[114, 101, 109, 111, 118, 101, 32, 49, 48, 50, 52]⟩, .string ⟨#[83, 116, 97, 114, 116]⟩] 23 (0, 0))) ∧ (w_.heap[b12]? = some (.cells #[.string ⟨#[116, 105, 99, 107, 32, 51]⟩, .string ⟨#[]⟩, .string ⟨#[59, 32, 120]⟩, .string ⟨#[114, 101, 115, 105, 122, 101, 32, 49, 32, 50]⟩] 24 (0, 0))) ∧ (0 ≤ i) ∧ (i ≤ r26)) (fun (i : Int) => (r26 - i).toNat) 0 ⟨(by kernel_rfl), (by kernel_rfl), (by kernel_rfl), (by kernel_rfl), (by kernel_rfl), (by kernel_rfl), (by kernel_rfl), (by kernel_rfl), (by kernel_rfl), (by kernel_rfl), (by kernel_rfl), (by kernel_rfl), (by kernel_rfl), (by kernel_rfl), (by kernel_rfl), (by kernel_rfl), (by kernel_rfl), trivial⟩ ⟨K, hb10, hb20, Int.le_refl 0, (by omega)⟩ ?_
  rintro i w28 ⟨K, hb29, hb30, i0, i1⟩
  have wt_ := wrT_len i0 (by omega)
  have wn_ := wrN_rng i0 (by omega)
  refine WC.seq ?_
  refine WC.seq ?_
  refine WC.region ?_
  refine WL.op (d := 23) (.int .i64 i) (k := ?_)
  refine WL.op (d := 24) (.int .i64 r26) (k := ?_)
  refine WL.op (d := 25) (.bool (decide (i < r26))) (k := ?_)
  refine WL.nil ?_
  refine WX.seqN ?_
  refine WC.cond (b := decide (i < r26)) (ht := fun h31 => ?_) (hf := fun h31 => ?_)
  · have ph31 := of_decide_eq_true h31
    refine WC.skip ?_
    refine WX.seqN ?_
    refine WC.seq ?_
    refine WC.block ?_
    refine WC.seq ?_
    refine WC.region ?_
    refine WL.op (d := 28) (.string ⟨(lnT (wrU i)).toArray⟩) (k := ?_)
    refine WL.op (d := 29) (.int .i64 i) (k := ?_)
    refine WL.bin (d := 30) (v := .int .i64 (bits BinOp.and IntKind.i64 i 3)) (bits_run (by decide)) (k := ?_)
    refine WL.rw (t := 30) (v := .int .i64 (i % 4)) (congrArg (Value.int .i64) (and_mod3 i)) (k := ?_)
    refine bsplit (i % 4 == 0) (fun h32 => ?_) (fun h32 => ?_)
    · have ph32 := eq_of_beq h32
      have h33 : (i % 4 != 0) = false := bne_eq_false_iff_eq.2 (by omega)
      have h34 : (i % 4 == 1) = false := beq_eq_false_iff_ne.2 (by omega)
      have h35 : (i % 4 != 1) = true := bne_iff_ne.2 (by omega)
      have h36 : (i % 4 == 2) = false := beq_eq_false_iff_ne.2 (by omega)
      have h37 : (i % 4 != 2) = true := bne_iff_ne.2 (by omega)
      have h38 : (i % 4 == 3) = false := beq_eq_false_iff_ne.2 (by omega)
      have h39 : (i % 4 != 3) = true := bne_iff_ne.2 (by omega)
      refine WL.rw (t := 30) (v := .int .i64 0) (congrArg (Value.int .i64) (eq_of_beq h32)) (k := ?_)
      refine WL.op (d := 31) (.pointer (some ⟨b12, 0, none⟩)) (k := ?_)
      refine WL.load (v := .string ⟨#[116, 105, 99, 107, 32, 51]⟩) (ld1 (T := 9) (i := 0) hb30) (k := ?_)
      refine WL.bin (d := 33) (v := .string ⟨((lnT (wrU i)) ++ [116, 105, 99, 107, 32, 51]).toArray⟩) (cat_run (by (try simp only [List.length_append, List.length_cons, List.length_nil]); omega)) (k := ?_)
      refine WL.bin (d := 34) (v := .string ⟨((lnT (wrU i)) ++ [116, 105, 99, 107, 32, 51] ++ [10]).toArray⟩) (cat_run (by (try simp only [List.length_append, List.length_cons, List.length_nil]); omega)) (k := ?_)
      refine WL.op (d := 9) (.string ⟨((lnT (wrU i)) ++ [116, 105, 99, 107, 32, 51] ++ [10]).toArray⟩) (k := ?_)
      refine WL.nil ?_
      refine WX.seqN ?_
      refine WC.seq ?_
      refine WC.region ?_
      refine WL.op (d := 35) (.int .i64 i) (k := ?_)
      refine WL.bin (d := 36) (v := .int .i64 (bits BinOp.and IntKind.i64 i 3)) (bits_run (by decide)) (k := ?_)
      refine WL.rw (t := 36) (v := .int .i64 (i % 4)) (congrArg (Value.int .i64) (and_mod3 i)) (k := ?_)
      refine WL.op (d := 37) (.bool ((i % 4) == 0)) (k := ?_)
      refine WL.op (d := 38) (.bool ((i % 4) == 0)) (k := ?_)
      refine bsplit ((i % 4) == 0) (fun h40 => ?_) (fun h40 => ?_)
      · have ph40 := eq_of_beq h40
        refine WL.rw (t := 38) (v := .bool true) (congrArg Value.bool h40) (k := ?_)
        refine WL.skip (d := 39) (k := ?_)
        refine WL.skip (d := 40) (k := ?_)
        refine WL.skip (d := 41) (k := ?_)
        refine WL.op (d := 42) (.bool true) (k := ?_)
        refine WL.nil ?_
        refine WX.seqN ?_
        refine WC.condT (k := ?_)
        refine WC.region ?_
        refine WL.op (d := 43) (.int .i64 (wrN i)) (k := ?_)
        refine WL.opE (d := 44) (.int .i64 (IntKind.i64.wrap ((wrN i) + 1))) (v := .int .i64 ((wrN i) + 1)) (congrArg (Value.int .i64) (IntWalk.i64_in _ (by omega))) (k := ?_)
        refine WL.op (d := 10) (.int .i64 ((wrN i) + 1)) (k := ?_)
        refine WL.nil ?_
        refine WX.blockN ?_
        refine WX.seqN ?_
        refine WC.region ?_
        refine WL.op (d := 26) (.int .i64 i) (k := ?_)
        refine WL.opE (d := 27) (.int .i64 (IntKind.i64.wrap (i + 1))) (v := .int .i64 (i + 1)) (congrArg (Value.int .i64) (IntWalk.i64_in _ (by omega))) (k := ?_)
        refine WL.op (d := 11) (.int .i64 (i + 1)) (k := ?_)
        refine WL.nil ?_
        have j_ : i.toNat % 4 = 0 := by have q_ := eq_of_beq h32; omega
        have gw_ : gW i.toNat = [116, 105, 99, 107, 32, 51] := by unfold gW; rw [j_]; rfl
        refine WX.rw (t := 9) (v := .string ⟨(lnT (wrU (i + 1))).toArray⟩) (congrArg (fun l : List UInt8 => Value.string ⟨l.toArray⟩) (wrT_succ i0 gw_)) (k := ?_)
        refine WX.rw (t := 10) (v := .int .i64 (wrN (i + 1))) (congrArg (Value.int .i64) (show ((wrN i) + 1) = wrN (i + 1) by first | (rw [wrN_succ i0, j_]; simp; done) | (exfalso; omega))) (k := ?_)
        refine WX.round (i + 1) (by show (r26 - (i + 1)).toNat < (r26 - i).toNat; omega) ⟨(by kernel_rfl), (by kernel_rfl), (by kernel_rfl), (by kernel_rfl), (by kernel_rfl), (by kernel_rfl), (by kernel_rfl), (by kernel_rfl), (by kernel_rfl), (by kernel_rfl), (by kernel_rfl), (by kernel_rfl), (by kernel_rfl), (by kernel_rfl), (by kernel_rfl), (by kernel_rfl), (by kernel_rfl), trivial⟩ ⟨K, hb29, hb30, (by omega), (by omega)⟩
      · have ph40 := ne_of_beq_false h40
        refine WL.rw (t := 38) (v := .bool false) (congrArg Value.bool h40) (k := ?_)
        refine WL.op (d := 39) (.int .i64 i) (k := ?_)
        refine WL.bin (d := 40) (v := .int .i64 (bits BinOp.and IntKind.i64 i 3)) (bits_run (by decide)) (k := ?_)
        refine WL.rw (t := 40) (v := .int .i64 (i % 4)) (congrArg (Value.int .i64) (and_mod3 i)) (k := ?_)
        refine WL.op (d := 41) (.bool ((i % 4) == 3)) (k := ?_)
        refine WL.op (d := 42) (.bool ((i % 4) == 3)) (k := ?_)
        refine WL.nil ?_
        refine WX.seqN ?_
        refine WC.cond (b := (i % 4) == 3) (ht := fun h41 => ?_) (hf := fun h41 => ?_)
        · have ph41 := eq_of_beq h41
          refine WC.region ?_
          refine WL.op (d := 43) (.int .i64 (wrN i)) (k := ?_)
          refine WL.opE (d := 44) (.int .i64 (IntKind.i64.wrap ((wrN i) + 1))) (v := .int .i64 ((wrN i) + 1)) (congrArg (Value.int .i64) (IntWalk.i64_in _ (by omega))) (k := ?_)
          refine WL.op (d := 10) (.int .i64 ((wrN i) + 1)) (k := ?_)
          refine WL.nil ?_
          refine WX.blockN ?_
          refine WX.seqN ?_
          refine WC.region ?_
          refine WL.op (d := 26) (.int .i64 i) (k := ?_)
          refine WL.opE (d := 27) (.int .i64 (IntKind.i64.wrap (i + 1))) (v := .int .i64 (i + 1)) (congrArg (Value.int .i64) (IntWalk.i64_in _ (by omega))) (k := ?_)
          refine WL.op (d := 11) (.int .i64 (i + 1)) (k := ?_)
          refine WL.nil ?_
          have j_ : i.toNat % 4 = 0 := by have q_ := eq_of_beq h32; omega
          have gw_ : gW i.toNat = [116, 105, 99, 107, 32, 51] := by unfold gW; rw [j_]; rfl
          refine WX.rw (t := 9) (v := .string ⟨(lnT (wrU (i + 1))).toArray⟩) (congrArg (fun l : List UInt8 => Value.string ⟨l.toArray⟩) (wrT_succ i0 gw_)) (k := ?_)
          refine WX.rw (t := 10) (v := .int .i64 (wrN (i + 1))) (congrArg (Value.int .i64) (show ((wrN i) + 1) = wrN (i + 1) by first | (rw [wrN_succ i0, j_]; simp; done) | (exfalso; omega))) (k := ?_)
          refine WX.round (i + 1) (by show (r26 - (i + 1)).toNat < (r26 - i).toNat; omega) ⟨(by kernel_rfl), (by kernel_rfl), (by kernel_rfl), (by kernel_rfl), (by kernel_rfl), (by kernel_rfl), (by kernel_rfl), (by kernel_rfl), (by kernel_rfl), (by kernel_rfl), (by kernel_rfl), (by kernel_rfl), (by kernel_rfl), (by kernel_rfl), (by kernel_rfl), (by kernel_rfl), (by kernel_rfl), trivial⟩ ⟨K, hb29, hb30, (by omega), (by omega)⟩
        · have ph41 := ne_of_beq_false h41
          refine WC.skip ?_
          refine WX.blockN ?_
          refine WX.seqN ?_
          refine WC.region ?_
          refine WL.op (d := 26) (.int .i64 i) (k := ?_)
          refine WL.opE (d := 27) (.int .i64 (IntKind.i64.wrap (i + 1))) (v := .int .i64 (i + 1)) (congrArg (Value.int .i64) (IntWalk.i64_in _ (by omega))) (k := ?_)
          refine WL.op (d := 11) (.int .i64 (i + 1)) (k := ?_)
          refine WL.nil ?_
          have j_ : i.toNat % 4 = 0 := by have q_ := eq_of_beq h32; omega
          have gw_ : gW i.toNat = [116, 105, 99, 107, 32, 51] := by unfold gW; rw [j_]; rfl
          refine WX.rw (t := 9) (v := .string ⟨(lnT (wrU (i + 1))).toArray⟩) (congrArg (fun l : List UInt8 => Value.string ⟨l.toArray⟩) (wrT_succ i0 gw_)) (k := ?_)
          refine WX.rw (t := 10) (v := .int .i64 (wrN (i + 1))) (congrArg (Value.int .i64) (show (wrN i) = wrN (i + 1) by first | (rw [wrN_succ i0, j_]; simp; done) | (exfalso; omega))) (k := ?_)
          refine WX.round (i + 1) (by show (r26 - (i + 1)).toNat < (r26 - i).toNat; omega) ⟨(by kernel_rfl), (by kernel_rfl), (by kernel_rfl), (by kernel_rfl), (by kernel_rfl), (by kernel_rfl), (by kernel_rfl), (by kernel_rfl), (by kernel_rfl), (by kernel_rfl), (by kernel_rfl), (by kernel_rfl), (by kernel_rfl), (by kernel_rfl), (by kernel_rfl), (by kernel_rfl), (by kernel_rfl), trivial⟩ ⟨K, hb29, hb30, (by omega), (by omega)⟩
    · have ph32 := ne_of_beq_false h32
      have h42 : (i % 4 != 0) = true := bne_iff_ne.2 (by omega)
      refine bsplit (i % 4 == 1) (fun h43 => ?_) (fun h43 => ?_)
      · have ph43 := eq_of_beq h43
        have h44 : (i % 4 != 1) = false := bne_eq_false_iff_eq.2 (by omega)
        have h45 : (i % 4 == 2) = false := beq_eq_false_iff_ne.2 (by omega)
        have h46 : (i % 4 != 2) = true := bne_iff_ne.2 (by omega)
        have h47 : (i % 4 == 3) = false := beq_eq_false_iff_ne.2 (by omega)
        have h48 : (i % 4 != 3) = true := bne_iff_ne.2 (by omega)
        refine WL.rw (t := 30) (v := .int .i64 1) (congrArg (Value.int .i64) (eq_of_beq h43)) (k := ?_)
        refine WL.op (d := 31) (.pointer (some ⟨b12, 1, none⟩)) (k := ?_)
        refine WL.load (v := .string ⟨#[]⟩) (ld1 (T := 9) (i := 1) hb30) (k := ?_)
        refine WL.bin (d := 33) (v := .string ⟨((lnT (wrU i)) ++ []).toArray⟩) (cat_run (by (try simp only [List.length_append, List.length_cons, List.length_nil]); omega)) (k := ?_)
        refine WL.bin (d := 34) (v := .string ⟨((lnT (wrU i)) ++ [] ++ [10]).toArray⟩) (cat_run (by (try simp only [List.length_append, List.length_cons, List.length_nil]); omega)) (k := ?_)
        refine WL.op (d := 9) (.string ⟨((lnT (wrU i)) ++ [] ++ [10]).toArray⟩) (k := ?_)
        refine WL.nil ?_
        refine WX.seqN ?_
        refine WC.seq ?_
        refine WC.region ?_
        refine WL.op (d := 35) (.int .i64 i) (k := ?_)
        refine WL.bin (d := 36) (v := .int .i64 (bits BinOp.and IntKind.i64 i 3)) (bits_run (by decide)) (k := ?_)
        refine WL.rw (t := 36) (v := .int .i64 (i % 4)) (congrArg (Value.int .i64) (and_mod3 i)) (k := ?_)
        refine WL.op (d := 37) (.bool ((i % 4) == 0)) (k := ?_)
        refine WL.op (d := 38) (.bool ((i % 4) == 0)) (k := ?_)
        refine bsplit ((i % 4) == 0) (fun h49 => ?_) (fun h49 => ?_)
        · have ph49 := eq_of_beq h49
          refine WL.rw (t := 38) (v := .bool true) (congrArg Value.bool h49) (k := ?_)
          refine WL.skip (d := 39) (k := ?_)
          refine WL.skip (d := 40) (k := ?_)
          refine WL.skip (d := 41) (k := ?_)
          refine WL.op (d := 42) (.bool true) (k := ?_)
          refine WL.nil ?_
          refine WX.seqN ?_
          refine WC.condT (k := ?_)
          refine WC.region ?_
          refine WL.op (d := 43) (.int .i64 (wrN i)) (k := ?_)
          refine WL.opE (d := 44) (.int .i64 (IntKind.i64.wrap ((wrN i) + 1))) (v := .int .i64 ((wrN i) + 1)) (congrArg (Value.int .i64) (IntWalk.i64_in _ (by omega))) (k := ?_)
          refine WL.op (d := 10) (.int .i64 ((wrN i) + 1)) (k := ?_)
          refine WL.nil ?_
          refine WX.blockN ?_
          refine WX.seqN ?_
          refine WC.region ?_
          refine WL.op (d := 26) (.int .i64 i) (k := ?_)
          refine WL.opE (d := 27) (.int .i64 (IntKind.i64.wrap (i + 1))) (v := .int .i64 (i + 1)) (congrArg (Value.int .i64) (IntWalk.i64_in _ (by omega))) (k := ?_)
          refine WL.op (d := 11) (.int .i64 (i + 1)) (k := ?_)
          refine WL.nil ?_
          have j_ : i.toNat % 4 = 1 := by have q_ := eq_of_beq h43; omega
          have gw_ : gW i.toNat = [] := by unfold gW; rw [j_]; rfl
          refine WX.rw (t := 9) (v := .string ⟨(lnT (wrU (i + 1))).toArray⟩) (congrArg (fun l : List UInt8 => Value.string ⟨l.toArray⟩) (wrT_succ i0 gw_)) (k := ?_)
          refine WX.rw (t := 10) (v := .int .i64 (wrN (i + 1))) (congrArg (Value.int .i64) (show ((wrN i) + 1) = wrN (i + 1) by first | (rw [wrN_succ i0, j_]; simp; done) | (exfalso; omega))) (k := ?_)
          refine WX.round (i + 1) (by show (r26 - (i + 1)).toNat < (r26 - i).toNat; omega) ⟨(by kernel_rfl), (by kernel_rfl), (by kernel_rfl), (by kernel_rfl), (by kernel_rfl), (by kernel_rfl), (by kernel_rfl), (by kernel_rfl), (by kernel_rfl), (by kernel_rfl), (by kernel_rfl), (by kernel_rfl), (by kernel_rfl), (by kernel_rfl), (by kernel_rfl), (by kernel_rfl), (by kernel_rfl), trivial⟩ ⟨K, hb29, hb30, (by omega), (by omega)⟩
        · have ph49 := ne_of_beq_false h49
          refine WL.rw (t := 38) (v := .bool false) (congrArg Value.bool h49) (k := ?_)
          refine WL.op (d := 39) (.int .i64 i) (k := ?_)
          refine WL.bin (d := 40) (v := .int .i64 (bits BinOp.and IntKind.i64 i 3)) (bits_run (by decide)) (k := ?_)
          refine WL.rw (t := 40) (v := .int .i64 (i % 4)) (congrArg (Value.int .i64) (and_mod3 i)) (k := ?_)
          refine WL.op (d := 41) (.bool ((i % 4) == 3)) (k := ?_)
          refine WL.op (d := 42) (.bool ((i % 4) == 3)) (k := ?_)
          refine WL.nil ?_
          refine WX.seqN ?_
          refine WC.cond (b := (i % 4) == 3) (ht := fun h50 => ?_) (hf := fun h50 => ?_)
          · have ph50 := eq_of_beq h50
            refine WC.region ?_
            refine WL.op (d := 43) (.int .i64 (wrN i)) (k := ?_)
            refine WL.opE (d := 44) (.int .i64 (IntKind.i64.wrap ((wrN i) + 1))) (v := .int .i64 ((wrN i) + 1)) (congrArg (Value.int .i64) (IntWalk.i64_in _ (by omega))) (k := ?_)
            refine WL.op (d := 10) (.int .i64 ((wrN i) + 1)) (k := ?_)
            refine WL.nil ?_
            refine WX.blockN ?_
            refine WX.seqN ?_
            refine WC.region ?_
            refine WL.op (d := 26) (.int .i64 i) (k := ?_)
            refine WL.opE (d := 27) (.int .i64 (IntKind.i64.wrap (i + 1))) (v := .int .i64 (i + 1)) (congrArg (Value.int .i64) (IntWalk.i64_in _ (by omega))) (k := ?_)
            refine WL.op (d := 11) (.int .i64 (i + 1)) (k := ?_)
            refine WL.nil ?_
            have j_ : i.toNat % 4 = 1 := by have q_ := eq_of_beq h43; omega
            have gw_ : gW i.toNat = [] := by unfold gW; rw [j_]; rfl
            refine WX.rw (t := 9) (v := .string ⟨(lnT (wrU (i + 1))).toArray⟩) (congrArg (fun l : List UInt8 => Value.string ⟨l.toArray⟩) (wrT_succ i0 gw_)) (k := ?_)
            refine WX.rw (t := 10) (v := .int .i64 (wrN (i + 1))) (congrArg (Value.int .i64) (show ((wrN i) + 1) = wrN (i + 1) by first | (rw [wrN_succ i0, j_]; simp; done) | (exfalso; omega))) (k := ?_)
            refine WX.round (i + 1) (by show (r26 - (i + 1)).toNat < (r26 - i).toNat; omega) ⟨(by kernel_rfl), (by kernel_rfl), (by kernel_rfl), (by kernel_rfl), (by kernel_rfl), (by kernel_rfl), (by kernel_rfl), (by kernel_rfl), (by kernel_rfl), (by kernel_rfl), (by kernel_rfl), (by kernel_rfl), (by kernel_rfl), (by kernel_rfl), (by kernel_rfl), (by kernel_rfl), (by kernel_rfl), trivial⟩ ⟨K, hb29, hb30, (by omega), (by omega)⟩
          · have ph50 := ne_of_beq_false h50
            refine WC.skip ?_
            refine WX.blockN ?_
            refine WX.seqN ?_
            refine WC.region ?_
            refine WL.op (d := 26) (.int .i64 i) (k := ?_)
            refine WL.opE (d := 27) (.int .i64 (IntKind.i64.wrap (i + 1))) (v := .int .i64 (i + 1)) (congrArg (Value.int .i64) (IntWalk.i64_in _ (by omega))) (k := ?_)
            refine WL.op (d := 11) (.int .i64 (i + 1)) (k := ?_)
            refine WL.nil ?_
            have j_ : i.toNat % 4 = 1 := by have q_ := eq_of_beq h43; omega
            have gw_ : gW i.toNat = [] := by unfold gW; rw [j_]; rfl
            refine WX.rw (t := 9) (v := .string ⟨(lnT (wrU (i + 1))).toArray⟩) (congrArg (fun l : List UInt8 => Value.string ⟨l.toArray⟩) (wrT_succ i0 gw_)) (k := ?_)
            refine WX.rw (t := 10) (v := .int .i64 (wrN (i + 1))) (congrArg (Value.int .i64) (show (wrN i) = wrN (i + 1) by first | (rw [wrN_succ i0, j_]; simp; done) | (exfalso; omega))) (k := ?_)
            refine WX.round (i + 1) (by show (r26 - (i + 1)).toNat < (r26 - i).toNat; omega) ⟨(by kernel_rfl), (by kernel_rfl), (by kernel_rfl), (by kernel_rfl), (by kernel_rfl), (by kernel_rfl), (by kernel_rfl), (by kernel_rfl), (by kernel_rfl), (by kernel_rfl), (by kernel_rfl), (by kernel_rfl), (by kernel_rfl), (by kernel_rfl), (by kernel_rfl), (by kernel_rfl), (by kernel_rfl), trivial⟩ ⟨K, hb29, hb30, (by omega), (by omega)⟩
      · have ph43 := ne_of_beq_false h43
        have h51 : (i % 4 != 1) = true := bne_iff_ne.2 (by omega)
        refine bsplit (i % 4 == 2) (fun h52 => ?_) (fun h52 => ?_)
        · have ph52 := eq_of_beq h52
          have h53 : (i % 4 != 2) = false := bne_eq_false_iff_eq.2 (by omega)
          have h54 : (i % 4 == 3) = false := beq_eq_false_iff_ne.2 (by omega)
          have h55 : (i % 4 != 3) = true := bne_iff_ne.2 (by omega)
          refine WL.rw (t := 30) (v := .int .i64 2) (congrArg (Value.int .i64) (eq_of_beq h52)) (k := ?_)
          refine WL.op (d := 31) (.pointer (some ⟨b12, 2, none⟩)) (k := ?_)
          refine WL.load (v := .string ⟨#[59, 32, 120]⟩) (ld1 (T := 9) (i := 2) hb30) (k := ?_)
          refine WL.bin (d := 33) (v := .string ⟨((lnT (wrU i)) ++ [59, 32, 120]).toArray⟩) (cat_run (by (try simp only [List.length_append, List.length_cons, List.length_nil]); omega)) (k := ?_)
          refine WL.bin (d := 34) (v := .string ⟨((lnT (wrU i)) ++ [59, 32, 120] ++ [10]).toArray⟩) (cat_run (by (try simp only [List.length_append, List.length_cons, List.length_nil]); omega)) (k := ?_)
          refine WL.op (d := 9) (.string ⟨((lnT (wrU i)) ++ [59, 32, 120] ++ [10]).toArray⟩) (k := ?_)
          refine WL.nil ?_
          refine WX.seqN ?_
          refine WC.seq ?_
          refine WC.region ?_
          refine WL.op (d := 35) (.int .i64 i) (k := ?_)
          refine WL.bin (d := 36) (v := .int .i64 (bits BinOp.and IntKind.i64 i 3)) (bits_run (by decide)) (k := ?_)
          refine WL.rw (t := 36) (v := .int .i64 (i % 4)) (congrArg (Value.int .i64) (and_mod3 i)) (k := ?_)
          refine WL.op (d := 37) (.bool ((i % 4) == 0)) (k := ?_)
          refine WL.op (d := 38) (.bool ((i % 4) == 0)) (k := ?_)
          refine bsplit ((i % 4) == 0) (fun h56 => ?_) (fun h56 => ?_)
          · have ph56 := eq_of_beq h56
            refine WL.rw (t := 38) (v := .bool true) (congrArg Value.bool h56) (k := ?_)
            refine WL.skip (d := 39) (k := ?_)
            refine WL.skip (d := 40) (k := ?_)
            refine WL.skip (d := 41) (k := ?_)
            refine WL.op (d := 42) (.bool true) (k := ?_)
            refine WL.nil ?_
            refine WX.seqN ?_
            refine WC.condT (k := ?_)
            refine WC.region ?_
            refine WL.op (d := 43) (.int .i64 (wrN i)) (k := ?_)
            refine WL.opE (d := 44) (.int .i64 (IntKind.i64.wrap ((wrN i) + 1))) (v := .int .i64 ((wrN i) + 1)) (congrArg (Value.int .i64) (IntWalk.i64_in _ (by omega))) (k := ?_)
            refine WL.op (d := 10) (.int .i64 ((wrN i) + 1)) (k := ?_)
            refine WL.nil ?_
            refine WX.blockN ?_
            refine WX.seqN ?_
            refine WC.region ?_
            refine WL.op (d := 26) (.int .i64 i) (k := ?_)
            refine WL.opE (d := 27) (.int .i64 (IntKind.i64.wrap (i + 1))) (v := .int .i64 (i + 1)) (congrArg (Value.int .i64) (IntWalk.i64_in _ (by omega))) (k := ?_)
            refine WL.op (d := 11) (.int .i64 (i + 1)) (k := ?_)
            refine WL.nil ?_
            have j_ : i.toNat % 4 = 2 := by have q_ := eq_of_beq h52; omega
            have gw_ : gW i.toNat = [59, 32, 120] := by unfold gW; rw [j_]; rfl
            refine WX.rw (t := 9) (v := .string ⟨(lnT (wrU (i + 1))).toArray⟩) (congrArg (fun l : List UInt8 => Value.string ⟨l.toArray⟩) (wrT_succ i0 gw_)) (k := ?_)
            refine WX.rw (t := 10) (v := .int .i64 (wrN (i + 1))) (congrArg (Value.int .i64) (show ((wrN i) + 1) = wrN (i + 1) by first | (rw [wrN_succ i0, j_]; simp; done) | (exfalso; omega))) (k := ?_)
            refine WX.round (i + 1) (by show (r26 - (i + 1)).toNat < (r26 - i).toNat; omega) ⟨(by kernel_rfl), (by kernel_rfl), (by kernel_rfl), (by kernel_rfl), (by kernel_rfl), (by kernel_rfl), (by kernel_rfl), (by kernel_rfl), (by kernel_rfl), (by kernel_rfl), (by kernel_rfl), (by kernel_rfl), (by kernel_rfl), (by kernel_rfl), (by kernel_rfl), (by kernel_rfl), (by kernel_rfl), trivial⟩ ⟨K, hb29, hb30, (by omega), (by omega)⟩
          · have ph56 := ne_of_beq_false h56
            refine WL.rw (t := 38) (v := .bool false) (congrArg Value.bool h56) (k := ?_)
            refine WL.op (d := 39) (.int .i64 i) (k := ?_)
            refine WL.bin (d := 40) (v := .int .i64 (bits BinOp.and IntKind.i64 i 3)) (bits_run (by decide)) (k := ?_)
            refine WL.rw (t := 40) (v := .int .i64 (i % 4)) (congrArg (Value.int .i64) (and_mod3 i)) (k := ?_)
            refine WL.op (d := 41) (.bool ((i % 4) == 3)) (k := ?_)
            refine WL.op (d := 42) (.bool ((i % 4) == 3)) (k := ?_)
            refine WL.nil ?_
            refine WX.seqN ?_
            refine WC.cond (b := (i % 4) == 3) (ht := fun h57 => ?_) (hf := fun h57 => ?_)
            · have ph57 := eq_of_beq h57
              refine WC.region ?_
              refine WL.op (d := 43) (.int .i64 (wrN i)) (k := ?_)
              refine WL.opE (d := 44) (.int .i64 (IntKind.i64.wrap ((wrN i) + 1))) (v := .int .i64 ((wrN i) + 1)) (congrArg (Value.int .i64) (IntWalk.i64_in _ (by omega))) (k := ?_)
              refine WL.op (d := 10) (.int .i64 ((wrN i) + 1)) (k := ?_)
              refine WL.nil ?_
              refine WX.blockN ?_
              refine WX.seqN ?_
              refine WC.region ?_
              refine WL.op (d := 26) (.int .i64 i) (k := ?_)
              refine WL.opE (d := 27) (.int .i64 (IntKind.i64.wrap (i + 1))) (v := .int .i64 (i + 1)) (congrArg (Value.int .i64) (IntWalk.i64_in _ (by omega))) (k := ?_)
              refine WL.op (d := 11) (.int .i64 (i + 1)) (k := ?_)
              refine WL.nil ?_
              have j_ : i.toNat % 4 = 2 := by have q_ := eq_of_beq h52; omega
              have gw_ : gW i.toNat = [59, 32, 120] := by unfold gW; rw [j_]; rfl
              refine WX.rw (t := 9) (v := .string ⟨(lnT (wrU (i + 1))).toArray⟩) (congrArg (fun l : List UInt8 => Value.string ⟨l.toArray⟩) (wrT_succ i0 gw_)) (k := ?_)
              refine WX.rw (t := 10) (v := .int .i64 (wrN (i + 1))) (congrArg (Value.int .i64) (show ((wrN i) + 1) = wrN (i + 1) by first | (rw [wrN_succ i0, j_]; simp; done) | (exfalso; omega))) (k := ?_)
              refine WX.round (i + 1) (by show (r26 - (i + 1)).toNat < (r26 - i).toNat; omega) ⟨(by kernel_rfl), (by kernel_rfl), (by kernel_rfl), (by kernel_rfl), (by kernel_rfl), (by kernel_rfl), (by kernel_rfl), (by kernel_rfl), (by kernel_rfl), (by kernel_rfl), (by kernel_rfl), (by kernel_rfl), (by kernel_rfl), (by kernel_rfl), (by kernel_rfl), (by kernel_rfl), (by kernel_rfl), trivial⟩ ⟨K, hb29, hb30, (by omega), (by omega)⟩
            · have ph57 := ne_of_beq_false h57
              refine WC.skip ?_
              refine WX.blockN ?_
              refine WX.seqN ?_
              refine WC.region ?_
              refine WL.op (d := 26) (.int .i64 i) (k := ?_)
              refine WL.opE (d := 27) (.int .i64 (IntKind.i64.wrap (i + 1))) (v := .int .i64 (i + 1)) (congrArg (Value.int .i64) (IntWalk.i64_in _ (by omega))) (k := ?_)
              refine WL.op (d := 11) (.int .i64 (i + 1)) (k := ?_)
              refine WL.nil ?_
              have j_ : i.toNat % 4 = 2 := by have q_ := eq_of_beq h52; omega
              have gw_ : gW i.toNat = [59, 32, 120] := by unfold gW; rw [j_]; rfl
              refine WX.rw (t := 9) (v := .string ⟨(lnT (wrU (i + 1))).toArray⟩) (congrArg (fun l : List UInt8 => Value.string ⟨l.toArray⟩) (wrT_succ i0 gw_)) (k := ?_)
              refine WX.rw (t := 10) (v := .int .i64 (wrN (i + 1))) (congrArg (Value.int .i64) (show (wrN i) = wrN (i + 1) by first | (rw [wrN_succ i0, j_]; simp; done) | (exfalso; omega))) (k := ?_)
              refine WX.round (i + 1) (by show (r26 - (i + 1)).toNat < (r26 - i).toNat; omega) ⟨(by kernel_rfl), (by kernel_rfl), (by kernel_rfl), (by kernel_rfl), (by kernel_rfl), (by kernel_rfl), (by kernel_rfl), (by kernel_rfl), (by kernel_rfl), (by kernel_rfl), (by kernel_rfl), (by kernel_rfl), (by kernel_rfl), (by kernel_rfl), (by kernel_rfl), (by kernel_rfl), (by kernel_rfl), trivial⟩ ⟨K, hb29, hb30, (by omega), (by omega)⟩
        · have ph52 := ne_of_beq_false h52
          have h58 : (i % 4 != 2) = true := bne_iff_ne.2 (by omega)
          have h59 : (i % 4 == 3) = true := beq_iff_eq.2 (by omega)
          have h60 : (i % 4 != 3) = false := bne_eq_false_iff_eq.2 (by omega)
          refine WL.rw (t := 30) (v := .int .i64 3) (congrArg (Value.int .i64) (eq_of_beq h59)) (k := ?_)
          refine WL.op (d := 31) (.pointer (some ⟨b12, 3, none⟩)) (k := ?_)
          refine WL.load (v := .string ⟨#[114, 101, 115, 105, 122, 101, 32, 49, 32, 50]⟩) (ld1 (T := 9) (i := 3) hb30) (k := ?_)
          refine WL.bin (d := 33) (v := .string ⟨((lnT (wrU i)) ++ [114, 101, 115, 105, 122, 101, 32, 49, 32, 50]).toArray⟩) (cat_run (by (try simp only [List.length_append, List.length_cons, List.length_nil]); omega)) (k := ?_)
          refine WL.bin (d := 34) (v := .string ⟨((lnT (wrU i)) ++ [114, 101, 115, 105, 122, 101, 32, 49, 32, 50] ++ [10]).toArray⟩) (cat_run (by (try simp only [List.length_append, List.length_cons, List.length_nil]); omega)) (k := ?_)
          refine WL.op (d := 9) (.string ⟨((lnT (wrU i)) ++ [114, 101, 115, 105, 122, 101, 32, 49, 32, 50] ++ [10]).toArray⟩) (k := ?_)
          refine WL.nil ?_
          refine WX.seqN ?_
          refine WC.seq ?_
          refine WC.region ?_
          refine WL.op (d := 35) (.int .i64 i) (k := ?_)
          refine WL.bin (d := 36) (v := .int .i64 (bits BinOp.and IntKind.i64 i 3)) (bits_run (by decide)) (k := ?_)
          refine WL.rw (t := 36) (v := .int .i64 (i % 4)) (congrArg (Value.int .i64) (and_mod3 i)) (k := ?_)
          refine WL.op (d := 37) (.bool ((i % 4) == 0)) (k := ?_)
          refine WL.op (d := 38) (.bool ((i % 4) == 0)) (k := ?_)
          refine bsplit ((i % 4) == 0) (fun h61 => ?_) (fun h61 => ?_)
          · have ph61 := eq_of_beq h61
            refine WL.rw (t := 38) (v := .bool true) (congrArg Value.bool h61) (k := ?_)
            refine WL.skip (d := 39) (k := ?_)
            refine WL.skip (d := 40) (k := ?_)
            refine WL.skip (d := 41) (k := ?_)
            refine WL.op (d := 42) (.bool true) (k := ?_)
            refine WL.nil ?_
            refine WX.seqN ?_
            refine WC.condT (k := ?_)
            refine WC.region ?_
            refine WL.op (d := 43) (.int .i64 (wrN i)) (k := ?_)
            refine WL.opE (d := 44) (.int .i64 (IntKind.i64.wrap ((wrN i) + 1))) (v := .int .i64 ((wrN i) + 1)) (congrArg (Value.int .i64) (IntWalk.i64_in _ (by omega))) (k := ?_)
            refine WL.op (d := 10) (.int .i64 ((wrN i) + 1)) (k := ?_)
            refine WL.nil ?_
            refine WX.blockN ?_
            refine WX.seqN ?_
            refine WC.region ?_
            refine WL.op (d := 26) (.int .i64 i) (k := ?_)
            refine WL.opE (d := 27) (.int .i64 (IntKind.i64.wrap (i + 1))) (v := .int .i64 (i + 1)) (congrArg (Value.int .i64) (IntWalk.i64_in _ (by omega))) (k := ?_)
            refine WL.op (d := 11) (.int .i64 (i + 1)) (k := ?_)
            refine WL.nil ?_
            have j_ : i.toNat % 4 = 3 := by have q_ := eq_of_beq h59; omega
            have gw_ : gW i.toNat = [114, 101, 115, 105, 122, 101, 32, 49, 32, 50] := by unfold gW; rw [j_]; rfl
            refine WX.rw (t := 9) (v := .string ⟨(lnT (wrU (i + 1))).toArray⟩) (congrArg (fun l : List UInt8 => Value.string ⟨l.toArray⟩) (wrT_succ i0 gw_)) (k := ?_)
            refine WX.rw (t := 10) (v := .int .i64 (wrN (i + 1))) (congrArg (Value.int .i64) (show ((wrN i) + 1) = wrN (i + 1) by first | (rw [wrN_succ i0, j_]; simp; done) | (exfalso; omega))) (k := ?_)
            refine WX.round (i + 1) (by show (r26 - (i + 1)).toNat < (r26 - i).toNat; omega) ⟨(by kernel_rfl), (by kernel_rfl), (by kernel_rfl), (by kernel_rfl), (by kernel_rfl), (by kernel_rfl), (by kernel_rfl), (by kernel_rfl), (by kernel_rfl), (by kernel_rfl), (by kernel_rfl), (by kernel_rfl), (by kernel_rfl), (by kernel_rfl), (by kernel_rfl), (by kernel_rfl), (by kernel_rfl), trivial⟩ ⟨K, hb29, hb30, (by omega), (by omega)⟩
          · have ph61 := ne_of_beq_false h61
            refine WL.rw (t := 38) (v := .bool false) (congrArg Value.bool h61) (k := ?_)
            refine WL.op (d := 39) (.int .i64 i) (k := ?_)
            refine WL.bin (d := 40) (v := .int .i64 (bits BinOp.and IntKind.i64 i 3)) (bits_run (by decide)) (k := ?_)
            refine WL.rw (t := 40) (v := .int .i64 (i % 4)) (congrArg (Value.int .i64) (and_mod3 i)) (k := ?_)
            refine WL.op (d := 41) (.bool ((i % 4) == 3)) (k := ?_)
            refine WL.op (d := 42) (.bool ((i % 4) == 3)) (k := ?_)
            refine WL.nil ?_
            refine WX.seqN ?_
            refine WC.cond (b := (i % 4) == 3) (ht := fun h62 => ?_) (hf := fun h62 => ?_)
            · have ph62 := eq_of_beq h62
              refine WC.region ?_
              refine WL.op (d := 43) (.int .i64 (wrN i)) (k := ?_)
              refine WL.opE (d := 44) (.int .i64 (IntKind.i64.wrap ((wrN i) + 1))) (v := .int .i64 ((wrN i) + 1)) (congrArg (Value.int .i64) (IntWalk.i64_in _ (by omega))) (k := ?_)
              refine WL.op (d := 10) (.int .i64 ((wrN i) + 1)) (k := ?_)
              refine WL.nil ?_
              refine WX.blockN ?_
              refine WX.seqN ?_
              refine WC.region ?_
              refine WL.op (d := 26) (.int .i64 i) (k := ?_)
              refine WL.opE (d := 27) (.int .i64 (IntKind.i64.wrap (i + 1))) (v := .int .i64 (i + 1)) (congrArg (Value.int .i64) (IntWalk.i64_in _ (by omega))) (k := ?_)
              refine WL.op (d := 11) (.int .i64 (i + 1)) (k := ?_)
              refine WL.nil ?_
              have j_ : i.toNat % 4 = 3 := by have q_ := eq_of_beq h59; omega
              have gw_ : gW i.toNat = [114, 101, 115, 105, 122, 101, 32, 49, 32, 50] := by unfold gW; rw [j_]; rfl
              refine WX.rw (t := 9) (v := .string ⟨(lnT (wrU (i + 1))).toArray⟩) (congrArg (fun l : List UInt8 => Value.string ⟨l.toArray⟩) (wrT_succ i0 gw_)) (k := ?_)
              refine WX.rw (t := 10) (v := .int .i64 (wrN (i + 1))) (congrArg (Value.int .i64) (show ((wrN i) + 1) = wrN (i + 1) by first | (rw [wrN_succ i0, j_]; simp; done) | (exfalso; omega))) (k := ?_)
              refine WX.round (i + 1) (by show (r26 - (i + 1)).toNat < (r26 - i).toNat; omega) ⟨(by kernel_rfl), (by kernel_rfl), (by kernel_rfl), (by kernel_rfl), (by kernel_rfl), (by kernel_rfl), (by kernel_rfl), (by kernel_rfl), (by kernel_rfl), (by kernel_rfl), (by kernel_rfl), (by kernel_rfl), (by kernel_rfl), (by kernel_rfl), (by kernel_rfl), (by kernel_rfl), (by kernel_rfl), trivial⟩ ⟨K, hb29, hb30, (by omega), (by omega)⟩
            · have ph62 := ne_of_beq_false h62
              refine WC.skip ?_
              refine WX.blockN ?_
              refine WX.seqN ?_
              refine WC.region ?_
              refine WL.op (d := 26) (.int .i64 i) (k := ?_)
              refine WL.opE (d := 27) (.int .i64 (IntKind.i64.wrap (i + 1))) (v := .int .i64 (i + 1)) (congrArg (Value.int .i64) (IntWalk.i64_in _ (by omega))) (k := ?_)
              refine WL.op (d := 11) (.int .i64 (i + 1)) (k := ?_)
              refine WL.nil ?_
              have j_ : i.toNat % 4 = 3 := by have q_ := eq_of_beq h59; omega
              have gw_ : gW i.toNat = [114, 101, 115, 105, 122, 101, 32, 49, 32, 50] := by unfold gW; rw [j_]; rfl
              refine WX.rw (t := 9) (v := .string ⟨(lnT (wrU (i + 1))).toArray⟩) (congrArg (fun l : List UInt8 => Value.string ⟨l.toArray⟩) (wrT_succ i0 gw_)) (k := ?_)
              refine WX.rw (t := 10) (v := .int .i64 (wrN (i + 1))) (congrArg (Value.int .i64) (show (wrN i) = wrN (i + 1) by first | (rw [wrN_succ i0, j_]; simp; done) | (exfalso; omega))) (k := ?_)
              refine WX.round (i + 1) (by show (r26 - (i + 1)).toNat < (r26 - i).toNat; omega) ⟨(by kernel_rfl), (by kernel_rfl), (by kernel_rfl), (by kernel_rfl), (by kernel_rfl), (by kernel_rfl), (by kernel_rfl), (by kernel_rfl), (by kernel_rfl), (by kernel_rfl), (by kernel_rfl), (by kernel_rfl), (by kernel_rfl), (by kernel_rfl), (by kernel_rfl), (by kernel_rfl), (by kernel_rfl), trivial⟩ ⟨K, hb29, hb30, (by omega), (by omega)⟩
  · have ph31 := of_decide_eq_false h31
    refine WC.exit ?_
    refine WX.seqE ?_
    refine WX.seqE ?_
    refine WX.blockE ?_
    refine WX.seqN ?_
    refine WC.seq ?_
    refine WC.region ?_
    refine WL.op (d := 46) (.string ⟨(lnT (wrU i)).toArray⟩) (k := ?_)
    refine WL.callG (d := 47) (f := 7) (args := #[.string ⟨(lnT (wrU i)).toArray⟩]) (lnParse_c (l := (lnT (wrU i))) (by first | omega | (simp; done) | (simp; omega)) (hG.keeps K (fun _ _ x => x))) (k := fun e_ w63 h_ => ?_)
    obtain ⟨xs64, A65, c66, n67, rfl, ho68, hF69, hP70, k71, ol72⟩ := h_
    refine ⟨_, rfl, ?_⟩
    have ol73 := fun i h => Nat.le_trans K.size (ol72 i h)
    replace hb29 := k71.heap hb29 id
    replace hb30 := k71.heap hb30 id
    replace K := K.trans (k71.any _)
    clear ol72
    obtain ⟨rfl, hl1_⟩ := wr_fine i0 hP70
    rw [List.length_map] at hl1_
    refine WL.op (d := 45) (.tuple #[.slice A65 xs64.length c66, .int .i64 0]) (k := ?_)
    refine WL.op (d := 48) (.slice A65 xs64.length c66) (k := ?_)
    refine WL.op (d := 49) (.int .i64 0) (k := ?_)
    refine WL.op (d := 12) (.slice A65 xs64.length c66) (k := ?_)
    refine WL.op (d := 13) (.int .i64 0) (k := ?_)
    refine WL.nil ?_
    refine WX.seqN ?_
    refine WC.seq ?_
    refine WC.region ?_
    refine WL.op (d := 51) (.string ⟨(lnT (wrU i)).toArray⟩) (k := ?_)
    refine WL.op (d := 52) (.int .i64 wh) (k := ?_)
    refine WL.bin (d := 53) (v := .int .i64 (bits BinOp.and IntKind.i64 wh 7)) (bits_run (by decide)) (k := ?_)
    refine WL.rw (t := 53) (v := .int .i64 (wh % 8)) (congrArg (Value.int .i64) (and_mod7 wh)) (k := ?_)
    refine bsplit (wh % 8 == 0) (fun h74 => ?_) (fun h74 => ?_)
    · have ph74 := eq_of_beq h74
      have h75 : (wh % 8 != 0) = false := bne_eq_false_iff_eq.2 (by omega)
      have h76 : (wh % 8 == 1) = false := beq_eq_false_iff_ne.2 (by omega)
      have h77 : (wh % 8 != 1) = true := bne_iff_ne.2 (by omega)
      have h78 : (wh % 8 == 2) = false := beq_eq_false_iff_ne.2 (by omega)
      have h79 : (wh % 8 != 2) = true := bne_iff_ne.2 (by omega)
      have h80 : (wh % 8 == 3) = false := beq_eq_false_iff_ne.2 (by omega)
      have h81 : (wh % 8 != 3) = true := bne_iff_ne.2 (by omega)
      have h82 : (wh % 8 == 4) = false := beq_eq_false_iff_ne.2 (by omega)
      have h83 : (wh % 8 != 4) = true := bne_iff_ne.2 (by omega)
      have h84 : (wh % 8 == 5) = false := beq_eq_false_iff_ne.2 (by omega)
      have h85 : (wh % 8 != 5) = true := bne_iff_ne.2 (by omega)
      have h86 : (wh % 8 == 6) = false := beq_eq_false_iff_ne.2 (by omega)
      have h87 : (wh % 8 != 6) = true := bne_iff_ne.2 (by omega)
      have h88 : (wh % 8 == 7) = false := beq_eq_false_iff_ne.2 (by omega)
      have h89 : (wh % 8 != 7) = true := bne_iff_ne.2 (by omega)
      refine WL.rw (t := 53) (v := .int .i64 0) (congrArg (Value.int .i64) (eq_of_beq h74)) (k := ?_)
      refine WL.op (d := 54) (.pointer (some ⟨b3, 0, none⟩)) (k := ?_)
      refine WL.load (v := .string ⟨#[97, 100, 109, 105, 116]⟩) (ld1 (T := 9) (i := 0) hb29) (k := ?_)
      refine WL.bin (d := 56) (v := .string ⟨((lnT (wrU i)) ++ [97, 100, 109, 105, 116]).toArray⟩) (cat_run (by (try simp only [List.length_append, List.length_cons, List.length_nil]); omega)) (k := ?_)
      refine WL.bin (d := 57) (v := .string ⟨((lnT (wrU i)) ++ [97, 100, 109, 105, 116] ++ [10, 115, 116, 97, 114, 116]).toArray⟩) (cat_run (by (try simp only [List.length_append, List.length_cons, List.length_nil]); omega)) (k := ?_)
      obtain ⟨Y57, hY57, lY57⟩ : ∃ Y, (lnT (wrU i)) ++ [97, 100, 109, 105, 116] ++ [10, 115, 116, 97, 114, 116] = Y ∧ Y.length ≤ 200 := ⟨_, rfl, by simp only [List.length_append, List.length_cons, List.length_nil]; omega⟩
      refine WL.rw (t := 57) (v := .string ⟨(Y57).toArray⟩) (congrArg (fun l : List UInt8 => Value.string ⟨l.toArray⟩) hY57) (k := ?_)
      refine WL.callG (d := 58) (f := 7) (args := #[.string ⟨(Y57).toArray⟩]) (lnParse_c (l := Y57) (by first | omega | (simp; done) | (simp; omega)) (hG.keeps K (fun _ _ x => x))) (k := fun e_ w90 h_ => ?_)
      obtain ⟨xs91, A92, c93, n94, rfl, ho95, hF96, hP97, k98, ol99⟩ := h_
      refine ⟨_, rfl, ?_⟩
      have ol100 := fun i h => Nat.le_trans K.size (ol99 i h)
      replace hb29 := k98.heap hb29 id
      replace hb30 := k98.heap hb30 id
      replace ho68 := ho68.adds k98
      replace hF69 := hF69.adds k98
      replace K := K.trans (k98.any _)
      clear ol99
      rw [← hY57, show ∀ X r : List UInt8, X ++ [97, 100, 109, 105, 116] ++ r = X ++ (wbW 0 ++ r) from fun X r => List.append_assoc _ _ _] at hP97
      obtain ⟨hx2_, rfl⟩ := wr_bad i0 (wb_all 0).2.1 (wb_all 0).1 hP97
      have hl2_ : xs91.length = 0 := by have q_ := congrArg List.length hx2_; simpa using q_
      refine WL.op (d := 50) (.tuple #[.slice A92 xs91.length c93, .int .i64 (i + 1)]) (k := ?_)
      refine WL.op (d := 59) (.slice A92 xs91.length c93) (k := ?_)
      refine WL.op (d := 60) (.int .i64 (i + 1)) (k := ?_)
      refine WL.op (d := 14) (.slice A92 xs91.length c93) (k := ?_)
      refine WL.op (d := 15) (.int .i64 (i + 1)) (k := ?_)
      refine WL.nil ?_
      refine WX.seqN ?_
      refine WC.seq ?_
      refine WC.region ?_
      refine WL.op (d := 61) (.bool true) (k := ?_)
      refine WL.op (d := 62) (.bool true) (k := ?_)
      refine WL.op (d := 63) (.int .i64 0) (k := ?_)
      refine WL.op (d := 64) (.bool true) (k := ?_)
      refine WL.op (d := 65) (.bool true) (k := ?_)
      refine WL.op (d := 66) (.bool true) (k := ?_)
      refine WL.op (d := 67) (.slice A65 xs64.length c66) (k := ?_)
      refine WL.op (d := 68) (.int .i64 (xs64.length : Int)) (k := ?_)
      refine WL.op (d := 69) (.int .i64 (wrN i)) (k := ?_)
      refine WL.op (d := 70) (.bool ((xs64.length : Int) == (wrN i))) (k := ?_)
      refine WL.op (d := 71) (.bool ((xs64.length : Int) == (wrN i))) (k := ?_)
      refine WL.op (d := 72) (.bool ((xs64.length : Int) == (wrN i))) (k := ?_)
      refine bsplit ((xs64.length : Int) == (wrN i)) (fun h101 => ?_) (fun h101 => ?_)
      · have ph101 := eq_of_beq h101
        refine WL.rw (t := 72) (v := .bool true) (congrArg Value.bool h101) (k := ?_)
        refine WL.op (d := 73) (.int .i64 (i + 1)) (k := ?_)
        refine WL.op (d := 74) (.int .i64 r26) (k := ?_)
        refine WL.opE (d := 75) (.int .i64 (IntKind.i64.wrap (r26 + 1))) (v := .int .i64 (r26 + 1)) (congrArg (Value.int .i64) (IntWalk.i64_in _ (by omega))) (k := ?_)
        refine WL.op (d := 76) (.bool ((i + 1) == (r26 + 1))) (k := ?_)
        refine WL.op (d := 77) (.bool ((i + 1) == (r26 + 1))) (k := ?_)
        refine WL.op (d := 78) (.bool ((i + 1) == (r26 + 1))) (k := ?_)
        refine bsplit ((i + 1) == (r26 + 1)) (fun h102 => ?_) (fun h102 => ?_)
        · have ph102 := eq_of_beq h102
          refine WL.rw (t := 78) (v := .bool true) (congrArg Value.bool h102) (k := ?_)
          refine WL.op (d := 79) (.slice A92 xs91.length c93) (k := ?_)
          refine WL.op (d := 80) (.int .i64 (xs91.length : Int)) (k := ?_)
          refine WL.op (d := 81) (.bool ((xs91.length : Int) == 0)) (k := ?_)
          refine WL.op (d := 82) (.bool ((xs91.length : Int) == 0)) (k := ?_)
          refine WL.op (d := 4) (.bool ((xs91.length : Int) == 0)) (k := ?_)
          refine WL.nil ?_
          refine WX.seqN ?_
          refine WC.ret ?_
          refine WX.ret (rs := [.tmp 4]) [.bool ((xs91.length : Int) == 0)] (.bool ((xs91.length : Int) == 0)) ⟨(by kernel_rfl), trivial⟩ (k := ?_)
          exact ⟨ret_bool (by rw [beq_iff_eq]; omega), K⟩
        · have ph102 := ne_of_beq_false h102
          refine WL.rw (t := 78) (v := .bool false) (congrArg Value.bool h102) (k := ?_)
          refine WL.skip (d := 79) (k := ?_)
          refine WL.skip (d := 80) (k := ?_)
          refine WL.skip (d := 81) (k := ?_)
          refine WL.op (d := 82) (.bool false) (k := ?_)
          refine WL.op (d := 4) (.bool false) (k := ?_)
          refine WL.nil ?_
          refine WX.seqN ?_
          refine WC.ret ?_
          refine WX.ret (rs := [.tmp 4]) [.bool false] (.bool false) ⟨(by kernel_rfl), trivial⟩ (k := ?_)
          exfalso; omega
      · have ph101 := ne_of_beq_false h101
        refine WL.rw (t := 72) (v := .bool false) (congrArg Value.bool h101) (k := ?_)
        refine WL.skip (d := 73) (k := ?_)
        refine WL.skip (d := 74) (k := ?_)
        refine WL.skip (d := 75) (k := ?_)
        refine WL.skip (d := 76) (k := ?_)
        refine WL.op (d := 77) (.bool false) (k := ?_)
        refine WL.op (d := 78) (.bool false) (k := ?_)
        refine WL.skip (d := 79) (k := ?_)
        refine WL.skip (d := 80) (k := ?_)
        refine WL.skip (d := 81) (k := ?_)
        refine WL.op (d := 82) (.bool false) (k := ?_)
        refine WL.op (d := 4) (.bool false) (k := ?_)
        refine WL.nil ?_
        refine WX.seqN ?_
        refine WC.ret ?_
        refine WX.ret (rs := [.tmp 4]) [.bool false] (.bool false) ⟨(by kernel_rfl), trivial⟩ (k := ?_)
        exfalso; omega
    · have ph74 := ne_of_beq_false h74
      have h103 : (wh % 8 != 0) = true := bne_iff_ne.2 (by omega)
      refine bsplit (wh % 8 == 1) (fun h104 => ?_) (fun h104 => ?_)
      · have ph104 := eq_of_beq h104
        have h105 : (wh % 8 != 1) = false := bne_eq_false_iff_eq.2 (by omega)
        have h106 : (wh % 8 == 2) = false := beq_eq_false_iff_ne.2 (by omega)
        have h107 : (wh % 8 != 2) = true := bne_iff_ne.2 (by omega)
        have h108 : (wh % 8 == 3) = false := beq_eq_false_iff_ne.2 (by omega)
        have h109 : (wh % 8 != 3) = true := bne_iff_ne.2 (by omega)
        have h110 : (wh % 8 == 4) = false := beq_eq_false_iff_ne.2 (by omega)
        have h111 : (wh % 8 != 4) = true := bne_iff_ne.2 (by omega)
        have h112 : (wh % 8 == 5) = false := beq_eq_false_iff_ne.2 (by omega)
        have h113 : (wh % 8 != 5) = true := bne_iff_ne.2 (by omega)
        have h114 : (wh % 8 == 6) = false := beq_eq_false_iff_ne.2 (by omega)
        have h115 : (wh % 8 != 6) = true := bne_iff_ne.2 (by omega)
        have h116 : (wh % 8 == 7) = false := beq_eq_false_iff_ne.2 (by omega)
        have h117 : (wh % 8 != 7) = true := bne_iff_ne.2 (by omega)
        refine WL.rw (t := 53) (v := .int .i64 1) (congrArg (Value.int .i64) (eq_of_beq h104)) (k := ?_)
        refine WL.op (d := 54) (.pointer (some ⟨b3, 1, none⟩)) (k := ?_)
        refine WL.load (v := .string ⟨#[97, 100, 109, 105, 116, 32, 49, 58, 50, 47, 49, 47, 49, 48, 47, 49, 53]⟩) (ld1 (T := 9) (i := 1) hb29) (k := ?_)
        refine WL.bin (d := 56) (v := .string ⟨((lnT (wrU i)) ++ [97, 100, 109, 105, 116, 32, 49, 58, 50, 47, 49, 47, 49, 48, 47, 49, 53]).toArray⟩) (cat_run (by (try simp only [List.length_append, List.length_cons, List.length_nil]); omega)) (k := ?_)
        refine WL.bin (d := 57) (v := .string ⟨((lnT (wrU i)) ++ [97, 100, 109, 105, 116, 32, 49, 58, 50, 47, 49, 47, 49, 48, 47, 49, 53] ++ [10, 115, 116, 97, 114, 116]).toArray⟩) (cat_run (by (try simp only [List.length_append, List.length_cons, List.length_nil]); omega)) (k := ?_)
        obtain ⟨Y57, hY57, lY57⟩ : ∃ Y, (lnT (wrU i)) ++ [97, 100, 109, 105, 116, 32, 49, 58, 50, 47, 49, 47, 49, 48, 47, 49, 53] ++ [10, 115, 116, 97, 114, 116] = Y ∧ Y.length ≤ 200 := ⟨_, rfl, by simp only [List.length_append, List.length_cons, List.length_nil]; omega⟩
        refine WL.rw (t := 57) (v := .string ⟨(Y57).toArray⟩) (congrArg (fun l : List UInt8 => Value.string ⟨l.toArray⟩) hY57) (k := ?_)
        refine WL.callG (d := 58) (f := 7) (args := #[.string ⟨(Y57).toArray⟩]) (lnParse_c (l := Y57) (by first | omega | (simp; done) | (simp; omega)) (hG.keeps K (fun _ _ x => x))) (k := fun e_ w118 h_ => ?_)
        obtain ⟨xs119, A120, c121, n122, rfl, ho123, hF124, hP125, k126, ol127⟩ := h_
        refine ⟨_, rfl, ?_⟩
        have ol128 := fun i h => Nat.le_trans K.size (ol127 i h)
        replace hb29 := k126.heap hb29 id
        replace hb30 := k126.heap hb30 id
        replace ho68 := ho68.adds k126
        replace hF69 := hF69.adds k126
        replace K := K.trans (k126.any _)
        clear ol127
        rw [← hY57, show ∀ X r : List UInt8, X ++ [97, 100, 109, 105, 116, 32, 49, 58, 50, 47, 49, 47, 49, 48, 47, 49, 53] ++ r = X ++ (wbW 1 ++ r) from fun X r => List.append_assoc _ _ _] at hP125
        obtain ⟨hx2_, rfl⟩ := wr_bad i0 (wb_all 1).2.1 (wb_all 1).1 hP125
        have hl2_ : xs119.length = 0 := by have q_ := congrArg List.length hx2_; simpa using q_
        refine WL.op (d := 50) (.tuple #[.slice A120 xs119.length c121, .int .i64 (i + 1)]) (k := ?_)
        refine WL.op (d := 59) (.slice A120 xs119.length c121) (k := ?_)
        refine WL.op (d := 60) (.int .i64 (i + 1)) (k := ?_)
        refine WL.op (d := 14) (.slice A120 xs119.length c121) (k := ?_)
        refine WL.op (d := 15) (.int .i64 (i + 1)) (k := ?_)
        refine WL.nil ?_
        refine WX.seqN ?_
        refine WC.seq ?_
        refine WC.region ?_
        refine WL.op (d := 61) (.bool true) (k := ?_)
        refine WL.op (d := 62) (.bool true) (k := ?_)
        refine WL.op (d := 63) (.int .i64 0) (k := ?_)
        refine WL.op (d := 64) (.bool true) (k := ?_)
        refine WL.op (d := 65) (.bool true) (k := ?_)
        refine WL.op (d := 66) (.bool true) (k := ?_)
        refine WL.op (d := 67) (.slice A65 xs64.length c66) (k := ?_)
        refine WL.op (d := 68) (.int .i64 (xs64.length : Int)) (k := ?_)
        refine WL.op (d := 69) (.int .i64 (wrN i)) (k := ?_)
        refine WL.op (d := 70) (.bool ((xs64.length : Int) == (wrN i))) (k := ?_)
        refine WL.op (d := 71) (.bool ((xs64.length : Int) == (wrN i))) (k := ?_)
        refine WL.op (d := 72) (.bool ((xs64.length : Int) == (wrN i))) (k := ?_)
        refine bsplit ((xs64.length : Int) == (wrN i)) (fun h129 => ?_) (fun h129 => ?_)
        · have ph129 := eq_of_beq h129
          refine WL.rw (t := 72) (v := .bool true) (congrArg Value.bool h129) (k := ?_)
          refine WL.op (d := 73) (.int .i64 (i + 1)) (k := ?_)
          refine WL.op (d := 74) (.int .i64 r26) (k := ?_)
          refine WL.opE (d := 75) (.int .i64 (IntKind.i64.wrap (r26 + 1))) (v := .int .i64 (r26 + 1)) (congrArg (Value.int .i64) (IntWalk.i64_in _ (by omega))) (k := ?_)
          refine WL.op (d := 76) (.bool ((i + 1) == (r26 + 1))) (k := ?_)
          refine WL.op (d := 77) (.bool ((i + 1) == (r26 + 1))) (k := ?_)
          refine WL.op (d := 78) (.bool ((i + 1) == (r26 + 1))) (k := ?_)
          refine bsplit ((i + 1) == (r26 + 1)) (fun h130 => ?_) (fun h130 => ?_)
          · have ph130 := eq_of_beq h130
            refine WL.rw (t := 78) (v := .bool true) (congrArg Value.bool h130) (k := ?_)
            refine WL.op (d := 79) (.slice A120 xs119.length c121) (k := ?_)
            refine WL.op (d := 80) (.int .i64 (xs119.length : Int)) (k := ?_)
            refine WL.op (d := 81) (.bool ((xs119.length : Int) == 0)) (k := ?_)
            refine WL.op (d := 82) (.bool ((xs119.length : Int) == 0)) (k := ?_)
            refine WL.op (d := 4) (.bool ((xs119.length : Int) == 0)) (k := ?_)
            refine WL.nil ?_
            refine WX.seqN ?_
            refine WC.ret ?_
            refine WX.ret (rs := [.tmp 4]) [.bool ((xs119.length : Int) == 0)] (.bool ((xs119.length : Int) == 0)) ⟨(by kernel_rfl), trivial⟩ (k := ?_)
            exact ⟨ret_bool (by rw [beq_iff_eq]; omega), K⟩
          · have ph130 := ne_of_beq_false h130
            refine WL.rw (t := 78) (v := .bool false) (congrArg Value.bool h130) (k := ?_)
            refine WL.skip (d := 79) (k := ?_)
            refine WL.skip (d := 80) (k := ?_)
            refine WL.skip (d := 81) (k := ?_)
            refine WL.op (d := 82) (.bool false) (k := ?_)
            refine WL.op (d := 4) (.bool false) (k := ?_)
            refine WL.nil ?_
            refine WX.seqN ?_
            refine WC.ret ?_
            refine WX.ret (rs := [.tmp 4]) [.bool false] (.bool false) ⟨(by kernel_rfl), trivial⟩ (k := ?_)
            exfalso; omega
        · have ph129 := ne_of_beq_false h129
          refine WL.rw (t := 72) (v := .bool false) (congrArg Value.bool h129) (k := ?_)
          refine WL.skip (d := 73) (k := ?_)
          refine WL.skip (d := 74) (k := ?_)
          refine WL.skip (d := 75) (k := ?_)
          refine WL.skip (d := 76) (k := ?_)
          refine WL.op (d := 77) (.bool false) (k := ?_)
          refine WL.op (d := 78) (.bool false) (k := ?_)
          refine WL.skip (d := 79) (k := ?_)
          refine WL.skip (d := 80) (k := ?_)
          refine WL.skip (d := 81) (k := ?_)
          refine WL.op (d := 82) (.bool false) (k := ?_)
          refine WL.op (d := 4) (.bool false) (k := ?_)
          refine WL.nil ?_
          refine WX.seqN ?_
          refine WC.ret ?_
          refine WX.ret (rs := [.tmp 4]) [.bool false] (.bool false) ⟨(by kernel_rfl), trivial⟩ (k := ?_)
          exfalso; omega
      · have ph104 := ne_of_beq_false h104
        have h131 : (wh % 8 != 1) = true := bne_iff_ne.2 (by omega)
        refine bsplit (wh % 8 == 2) (fun h132 => ?_) (fun h132 => ?_)
        · have ph132 := eq_of_beq h132
          have h133 : (wh % 8 != 2) = false := bne_eq_false_iff_eq.2 (by omega)
          have h134 : (wh % 8 == 3) = false := beq_eq_false_iff_ne.2 (by omega)
          have h135 : (wh % 8 != 3) = true := bne_iff_ne.2 (by omega)
          have h136 : (wh % 8 == 4) = false := beq_eq_false_iff_ne.2 (by omega)
          have h137 : (wh % 8 != 4) = true := bne_iff_ne.2 (by omega)
          have h138 : (wh % 8 == 5) = false := beq_eq_false_iff_ne.2 (by omega)
          have h139 : (wh % 8 != 5) = true := bne_iff_ne.2 (by omega)
          have h140 : (wh % 8 == 6) = false := beq_eq_false_iff_ne.2 (by omega)
          have h141 : (wh % 8 != 6) = true := bne_iff_ne.2 (by omega)
          have h142 : (wh % 8 == 7) = false := beq_eq_false_iff_ne.2 (by omega)
          have h143 : (wh % 8 != 7) = true := bne_iff_ne.2 (by omega)
          refine WL.rw (t := 53) (v := .int .i64 2) (congrArg (Value.int .i64) (eq_of_beq h132)) (k := ?_)
          refine WL.op (d := 54) (.pointer (some ⟨b3, 2, none⟩)) (k := ?_)
          refine WL.load (v := .string ⟨#[115, 101, 114, 118, 101, 32, 49, 58, 50, 47, 53, 47, 49, 48, 47, 49, 53]⟩) (ld1 (T := 9) (i := 2) hb29) (k := ?_)
          refine WL.bin (d := 56) (v := .string ⟨((lnT (wrU i)) ++ [115, 101, 114, 118, 101, 32, 49, 58, 50, 47, 53, 47, 49, 48, 47, 49, 53]).toArray⟩) (cat_run (by (try simp only [List.length_append, List.length_cons, List.length_nil]); omega)) (k := ?_)
          refine WL.bin (d := 57) (v := .string ⟨((lnT (wrU i)) ++ [115, 101, 114, 118, 101, 32, 49, 58, 50, 47, 53, 47, 49, 48, 47, 49, 53] ++ [10, 115, 116, 97, 114, 116]).toArray⟩) (cat_run (by (try simp only [List.length_append, List.length_cons, List.length_nil]); omega)) (k := ?_)
          obtain ⟨Y57, hY57, lY57⟩ : ∃ Y, (lnT (wrU i)) ++ [115, 101, 114, 118, 101, 32, 49, 58, 50, 47, 53, 47, 49, 48, 47, 49, 53] ++ [10, 115, 116, 97, 114, 116] = Y ∧ Y.length ≤ 200 := ⟨_, rfl, by simp only [List.length_append, List.length_cons, List.length_nil]; omega⟩
          refine WL.rw (t := 57) (v := .string ⟨(Y57).toArray⟩) (congrArg (fun l : List UInt8 => Value.string ⟨l.toArray⟩) hY57) (k := ?_)
          refine WL.callG (d := 58) (f := 7) (args := #[.string ⟨(Y57).toArray⟩]) (lnParse_c (l := Y57) (by first | omega | (simp; done) | (simp; omega)) (hG.keeps K (fun _ _ x => x))) (k := fun e_ w144 h_ => ?_)
          obtain ⟨xs145, A146, c147, n148, rfl, ho149, hF150, hP151, k152, ol153⟩ := h_
          refine ⟨_, rfl, ?_⟩
          have ol154 := fun i h => Nat.le_trans K.size (ol153 i h)
          replace hb29 := k152.heap hb29 id
          replace hb30 := k152.heap hb30 id
          replace ho68 := ho68.adds k152
          replace hF69 := hF69.adds k152
          replace K := K.trans (k152.any _)
          clear ol153
          rw [← hY57, show ∀ X r : List UInt8, X ++ [115, 101, 114, 118, 101, 32, 49, 58, 50, 47, 53, 47, 49, 48, 47, 49, 53] ++ r = X ++ (wbW 2 ++ r) from fun X r => List.append_assoc _ _ _] at hP151
          obtain ⟨hx2_, rfl⟩ := wr_bad i0 (wb_all 2).2.1 (wb_all 2).1 hP151
          have hl2_ : xs145.length = 0 := by have q_ := congrArg List.length hx2_; simpa using q_
          refine WL.op (d := 50) (.tuple #[.slice A146 xs145.length c147, .int .i64 (i + 1)]) (k := ?_)
          refine WL.op (d := 59) (.slice A146 xs145.length c147) (k := ?_)
          refine WL.op (d := 60) (.int .i64 (i + 1)) (k := ?_)
          refine WL.op (d := 14) (.slice A146 xs145.length c147) (k := ?_)
          refine WL.op (d := 15) (.int .i64 (i + 1)) (k := ?_)
          refine WL.nil ?_
          refine WX.seqN ?_
          refine WC.seq ?_
          refine WC.region ?_
          refine WL.op (d := 61) (.bool true) (k := ?_)
          refine WL.op (d := 62) (.bool true) (k := ?_)
          refine WL.op (d := 63) (.int .i64 0) (k := ?_)
          refine WL.op (d := 64) (.bool true) (k := ?_)
          refine WL.op (d := 65) (.bool true) (k := ?_)
          refine WL.op (d := 66) (.bool true) (k := ?_)
          refine WL.op (d := 67) (.slice A65 xs64.length c66) (k := ?_)
          refine WL.op (d := 68) (.int .i64 (xs64.length : Int)) (k := ?_)
          refine WL.op (d := 69) (.int .i64 (wrN i)) (k := ?_)
          refine WL.op (d := 70) (.bool ((xs64.length : Int) == (wrN i))) (k := ?_)
          refine WL.op (d := 71) (.bool ((xs64.length : Int) == (wrN i))) (k := ?_)
          refine WL.op (d := 72) (.bool ((xs64.length : Int) == (wrN i))) (k := ?_)
          refine bsplit ((xs64.length : Int) == (wrN i)) (fun h155 => ?_) (fun h155 => ?_)
          · have ph155 := eq_of_beq h155
            refine WL.rw (t := 72) (v := .bool true) (congrArg Value.bool h155) (k := ?_)
            refine WL.op (d := 73) (.int .i64 (i + 1)) (k := ?_)
            refine WL.op (d := 74) (.int .i64 r26) (k := ?_)
            refine WL.opE (d := 75) (.int .i64 (IntKind.i64.wrap (r26 + 1))) (v := .int .i64 (r26 + 1)) (congrArg (Value.int .i64) (IntWalk.i64_in _ (by omega))) (k := ?_)
            refine WL.op (d := 76) (.bool ((i + 1) == (r26 + 1))) (k := ?_)
            refine WL.op (d := 77) (.bool ((i + 1) == (r26 + 1))) (k := ?_)
            refine WL.op (d := 78) (.bool ((i + 1) == (r26 + 1))) (k := ?_)
            refine bsplit ((i + 1) == (r26 + 1)) (fun h156 => ?_) (fun h156 => ?_)
            · have ph156 := eq_of_beq h156
              refine WL.rw (t := 78) (v := .bool true) (congrArg Value.bool h156) (k := ?_)
              refine WL.op (d := 79) (.slice A146 xs145.length c147) (k := ?_)
              refine WL.op (d := 80) (.int .i64 (xs145.length : Int)) (k := ?_)
              refine WL.op (d := 81) (.bool ((xs145.length : Int) == 0)) (k := ?_)
              refine WL.op (d := 82) (.bool ((xs145.length : Int) == 0)) (k := ?_)
              refine WL.op (d := 4) (.bool ((xs145.length : Int) == 0)) (k := ?_)
              refine WL.nil ?_
              refine WX.seqN ?_
              refine WC.ret ?_
              refine WX.ret (rs := [.tmp 4]) [.bool ((xs145.length : Int) == 0)] (.bool ((xs145.length : Int) == 0)) ⟨(by kernel_rfl), trivial⟩ (k := ?_)
              exact ⟨ret_bool (by rw [beq_iff_eq]; omega), K⟩
            · have ph156 := ne_of_beq_false h156
              refine WL.rw (t := 78) (v := .bool false) (congrArg Value.bool h156) (k := ?_)
              refine WL.skip (d := 79) (k := ?_)
              refine WL.skip (d := 80) (k := ?_)
              refine WL.skip (d := 81) (k := ?_)
              refine WL.op (d := 82) (.bool false) (k := ?_)
              refine WL.op (d := 4) (.bool false) (k := ?_)
              refine WL.nil ?_
              refine WX.seqN ?_
              refine WC.ret ?_
              refine WX.ret (rs := [.tmp 4]) [.bool false] (.bool false) ⟨(by kernel_rfl), trivial⟩ (k := ?_)
              exfalso; omega
          · have ph155 := ne_of_beq_false h155
            refine WL.rw (t := 72) (v := .bool false) (congrArg Value.bool h155) (k := ?_)
            refine WL.skip (d := 73) (k := ?_)
            refine WL.skip (d := 74) (k := ?_)
            refine WL.skip (d := 75) (k := ?_)
            refine WL.skip (d := 76) (k := ?_)
            refine WL.op (d := 77) (.bool false) (k := ?_)
            refine WL.op (d := 78) (.bool false) (k := ?_)
            refine WL.skip (d := 79) (k := ?_)
            refine WL.skip (d := 80) (k := ?_)
            refine WL.skip (d := 81) (k := ?_)
            refine WL.op (d := 82) (.bool false) (k := ?_)
            refine WL.op (d := 4) (.bool false) (k := ?_)
            refine WL.nil ?_
            refine WX.seqN ?_
            refine WC.ret ?_
            refine WX.ret (rs := [.tmp 4]) [.bool false] (.bool false) ⟨(by kernel_rfl), trivial⟩ (k := ?_)
            exfalso; omega
        · have ph132 := ne_of_beq_false h132
          have h157 : (wh % 8 != 2) = true := bne_iff_ne.2 (by omega)
          refine bsplit (wh % 8 == 3) (fun h158 => ?_) (fun h158 => ?_)
          · have ph158 := eq_of_beq h158
            have h159 : (wh % 8 != 3) = false := bne_eq_false_iff_eq.2 (by omega)
            have h160 : (wh % 8 == 4) = false := beq_eq_false_iff_ne.2 (by omega)
            have h161 : (wh % 8 != 4) = true := bne_iff_ne.2 (by omega)
            have h162 : (wh % 8 == 5) = false := beq_eq_false_iff_ne.2 (by omega)
            have h163 : (wh % 8 != 5) = true := bne_iff_ne.2 (by omega)
            have h164 : (wh % 8 == 6) = false := beq_eq_false_iff_ne.2 (by omega)
            have h165 : (wh % 8 != 6) = true := bne_iff_ne.2 (by omega)
            have h166 : (wh % 8 == 7) = false := beq_eq_false_iff_ne.2 (by omega)
            have h167 : (wh % 8 != 7) = true := bne_iff_ne.2 (by omega)
            refine WL.rw (t := 53) (v := .int .i64 3) (congrArg (Value.int .i64) (eq_of_beq h158)) (k := ?_)
            refine WL.op (d := 54) (.pointer (some ⟨b3, 3, none⟩)) (k := ?_)
            refine WL.load (v := .string ⟨#[116, 105, 99, 107, 32, 48, 49]⟩) (ld1 (T := 9) (i := 3) hb29) (k := ?_)
            refine WL.bin (d := 56) (v := .string ⟨((lnT (wrU i)) ++ [116, 105, 99, 107, 32, 48, 49]).toArray⟩) (cat_run (by (try simp only [List.length_append, List.length_cons, List.length_nil]); omega)) (k := ?_)
            refine WL.bin (d := 57) (v := .string ⟨((lnT (wrU i)) ++ [116, 105, 99, 107, 32, 48, 49] ++ [10, 115, 116, 97, 114, 116]).toArray⟩) (cat_run (by (try simp only [List.length_append, List.length_cons, List.length_nil]); omega)) (k := ?_)
            obtain ⟨Y57, hY57, lY57⟩ : ∃ Y, (lnT (wrU i)) ++ [116, 105, 99, 107, 32, 48, 49] ++ [10, 115, 116, 97, 114, 116] = Y ∧ Y.length ≤ 200 := ⟨_, rfl, by simp only [List.length_append, List.length_cons, List.length_nil]; omega⟩
            refine WL.rw (t := 57) (v := .string ⟨(Y57).toArray⟩) (congrArg (fun l : List UInt8 => Value.string ⟨l.toArray⟩) hY57) (k := ?_)
            refine WL.callG (d := 58) (f := 7) (args := #[.string ⟨(Y57).toArray⟩]) (lnParse_c (l := Y57) (by first | omega | (simp; done) | (simp; omega)) (hG.keeps K (fun _ _ x => x))) (k := fun e_ w168 h_ => ?_)
            obtain ⟨xs169, A170, c171, n172, rfl, ho173, hF174, hP175, k176, ol177⟩ := h_
            refine ⟨_, rfl, ?_⟩
            have ol178 := fun i h => Nat.le_trans K.size (ol177 i h)
            replace hb29 := k176.heap hb29 id
            replace hb30 := k176.heap hb30 id
            replace ho68 := ho68.adds k176
            replace hF69 := hF69.adds k176
            replace K := K.trans (k176.any _)
            clear ol177
            rw [← hY57, show ∀ X r : List UInt8, X ++ [116, 105, 99, 107, 32, 48, 49] ++ r = X ++ (wbW 3 ++ r) from fun X r => List.append_assoc _ _ _] at hP175
            obtain ⟨hx2_, rfl⟩ := wr_bad i0 (wb_all 3).2.1 (wb_all 3).1 hP175
            have hl2_ : xs169.length = 0 := by have q_ := congrArg List.length hx2_; simpa using q_
            refine WL.op (d := 50) (.tuple #[.slice A170 xs169.length c171, .int .i64 (i + 1)]) (k := ?_)
            refine WL.op (d := 59) (.slice A170 xs169.length c171) (k := ?_)
            refine WL.op (d := 60) (.int .i64 (i + 1)) (k := ?_)
            refine WL.op (d := 14) (.slice A170 xs169.length c171) (k := ?_)
            refine WL.op (d := 15) (.int .i64 (i + 1)) (k := ?_)
            refine WL.nil ?_
            refine WX.seqN ?_
            refine WC.seq ?_
            refine WC.region ?_
            refine WL.op (d := 61) (.bool true) (k := ?_)
            refine WL.op (d := 62) (.bool true) (k := ?_)
            refine WL.op (d := 63) (.int .i64 0) (k := ?_)
            refine WL.op (d := 64) (.bool true) (k := ?_)
            refine WL.op (d := 65) (.bool true) (k := ?_)
            refine WL.op (d := 66) (.bool true) (k := ?_)
            refine WL.op (d := 67) (.slice A65 xs64.length c66) (k := ?_)
            refine WL.op (d := 68) (.int .i64 (xs64.length : Int)) (k := ?_)
            refine WL.op (d := 69) (.int .i64 (wrN i)) (k := ?_)
            refine WL.op (d := 70) (.bool ((xs64.length : Int) == (wrN i))) (k := ?_)
            refine WL.op (d := 71) (.bool ((xs64.length : Int) == (wrN i))) (k := ?_)
            refine WL.op (d := 72) (.bool ((xs64.length : Int) == (wrN i))) (k := ?_)
            refine bsplit ((xs64.length : Int) == (wrN i)) (fun h179 => ?_) (fun h179 => ?_)
            · have ph179 := eq_of_beq h179
              refine WL.rw (t := 72) (v := .bool true) (congrArg Value.bool h179) (k := ?_)
              refine WL.op (d := 73) (.int .i64 (i + 1)) (k := ?_)
              refine WL.op (d := 74) (.int .i64 r26) (k := ?_)
              refine WL.opE (d := 75) (.int .i64 (IntKind.i64.wrap (r26 + 1))) (v := .int .i64 (r26 + 1)) (congrArg (Value.int .i64) (IntWalk.i64_in _ (by omega))) (k := ?_)
              refine WL.op (d := 76) (.bool ((i + 1) == (r26 + 1))) (k := ?_)
              refine WL.op (d := 77) (.bool ((i + 1) == (r26 + 1))) (k := ?_)
              refine WL.op (d := 78) (.bool ((i + 1) == (r26 + 1))) (k := ?_)
              refine bsplit ((i + 1) == (r26 + 1)) (fun h180 => ?_) (fun h180 => ?_)
              · have ph180 := eq_of_beq h180
                refine WL.rw (t := 78) (v := .bool true) (congrArg Value.bool h180) (k := ?_)
                refine WL.op (d := 79) (.slice A170 xs169.length c171) (k := ?_)
                refine WL.op (d := 80) (.int .i64 (xs169.length : Int)) (k := ?_)
                refine WL.op (d := 81) (.bool ((xs169.length : Int) == 0)) (k := ?_)
                refine WL.op (d := 82) (.bool ((xs169.length : Int) == 0)) (k := ?_)
                refine WL.op (d := 4) (.bool ((xs169.length : Int) == 0)) (k := ?_)
                refine WL.nil ?_
                refine WX.seqN ?_
                refine WC.ret ?_
                refine WX.ret (rs := [.tmp 4]) [.bool ((xs169.length : Int) == 0)] (.bool ((xs169.length : Int) == 0)) ⟨(by kernel_rfl), trivial⟩ (k := ?_)
                exact ⟨ret_bool (by rw [beq_iff_eq]; omega), K⟩
              · have ph180 := ne_of_beq_false h180
                refine WL.rw (t := 78) (v := .bool false) (congrArg Value.bool h180) (k := ?_)
                refine WL.skip (d := 79) (k := ?_)
                refine WL.skip (d := 80) (k := ?_)
                refine WL.skip (d := 81) (k := ?_)
                refine WL.op (d := 82) (.bool false) (k := ?_)
                refine WL.op (d := 4) (.bool false) (k := ?_)
                refine WL.nil ?_
                refine WX.seqN ?_
                refine WC.ret ?_
                refine WX.ret (rs := [.tmp 4]) [.bool false] (.bool false) ⟨(by kernel_rfl), trivial⟩ (k := ?_)
                exfalso; omega
            · have ph179 := ne_of_beq_false h179
              refine WL.rw (t := 72) (v := .bool false) (congrArg Value.bool h179) (k := ?_)
              refine WL.skip (d := 73) (k := ?_)
              refine WL.skip (d := 74) (k := ?_)
              refine WL.skip (d := 75) (k := ?_)
              refine WL.skip (d := 76) (k := ?_)
              refine WL.op (d := 77) (.bool false) (k := ?_)
              refine WL.op (d := 78) (.bool false) (k := ?_)
              refine WL.skip (d := 79) (k := ?_)
              refine WL.skip (d := 80) (k := ?_)
              refine WL.skip (d := 81) (k := ?_)
              refine WL.op (d := 82) (.bool false) (k := ?_)
              refine WL.op (d := 4) (.bool false) (k := ?_)
              refine WL.nil ?_
              refine WX.seqN ?_
              refine WC.ret ?_
              refine WX.ret (rs := [.tmp 4]) [.bool false] (.bool false) ⟨(by kernel_rfl), trivial⟩ (k := ?_)
              exfalso; omega
          · have ph158 := ne_of_beq_false h158
            have h181 : (wh % 8 != 3) = true := bne_iff_ne.2 (by omega)
            refine bsplit (wh % 8 == 4) (fun h182 => ?_) (fun h182 => ?_)
            · have ph182 := eq_of_beq h182
              have h183 : (wh % 8 != 4) = false := bne_eq_false_iff_eq.2 (by omega)
              have h184 : (wh % 8 == 5) = false := beq_eq_false_iff_ne.2 (by omega)
              have h185 : (wh % 8 != 5) = true := bne_iff_ne.2 (by omega)
              have h186 : (wh % 8 == 6) = false := beq_eq_false_iff_ne.2 (by omega)
              have h187 : (wh % 8 != 6) = true := bne_iff_ne.2 (by omega)
              have h188 : (wh % 8 == 7) = false := beq_eq_false_iff_ne.2 (by omega)
              have h189 : (wh % 8 != 7) = true := bne_iff_ne.2 (by omega)
              refine WL.rw (t := 53) (v := .int .i64 4) (congrArg (Value.int .i64) (eq_of_beq h182)) (k := ?_)
              refine WL.op (d := 54) (.pointer (some ⟨b3, 4, none⟩)) (k := ?_)
              refine WL.load (v := .string ⟨#[99, 114, 97, 115, 104, 32, 116, 111, 114, 110]⟩) (ld1 (T := 9) (i := 4) hb29) (k := ?_)
              refine WL.bin (d := 56) (v := .string ⟨((lnT (wrU i)) ++ [99, 114, 97, 115, 104, 32, 116, 111, 114, 110]).toArray⟩) (cat_run (by (try simp only [List.length_append, List.length_cons, List.length_nil]); omega)) (k := ?_)
              refine WL.bin (d := 57) (v := .string ⟨((lnT (wrU i)) ++ [99, 114, 97, 115, 104, 32, 116, 111, 114, 110] ++ [10, 115, 116, 97, 114, 116]).toArray⟩) (cat_run (by (try simp only [List.length_append, List.length_cons, List.length_nil]); omega)) (k := ?_)
              obtain ⟨Y57, hY57, lY57⟩ : ∃ Y, (lnT (wrU i)) ++ [99, 114, 97, 115, 104, 32, 116, 111, 114, 110] ++ [10, 115, 116, 97, 114, 116] = Y ∧ Y.length ≤ 200 := ⟨_, rfl, by simp only [List.length_append, List.length_cons, List.length_nil]; omega⟩
              refine WL.rw (t := 57) (v := .string ⟨(Y57).toArray⟩) (congrArg (fun l : List UInt8 => Value.string ⟨l.toArray⟩) hY57) (k := ?_)
              refine WL.callG (d := 58) (f := 7) (args := #[.string ⟨(Y57).toArray⟩]) (lnParse_c (l := Y57) (by first | omega | (simp; done) | (simp; omega)) (hG.keeps K (fun _ _ x => x))) (k := fun e_ w190 h_ => ?_)
              obtain ⟨xs191, A192, c193, n194, rfl, ho195, hF196, hP197, k198, ol199⟩ := h_
              refine ⟨_, rfl, ?_⟩
              have ol200 := fun i h => Nat.le_trans K.size (ol199 i h)
              replace hb29 := k198.heap hb29 id
              replace hb30 := k198.heap hb30 id
              replace ho68 := ho68.adds k198
              replace hF69 := hF69.adds k198
              replace K := K.trans (k198.any _)
              clear ol199
              rw [← hY57, show ∀ X r : List UInt8, X ++ [99, 114, 97, 115, 104, 32, 116, 111, 114, 110] ++ r = X ++ (wbW 4 ++ r) from fun X r => List.append_assoc _ _ _] at hP197
              obtain ⟨hx2_, rfl⟩ := wr_bad i0 (wb_all 4).2.1 (wb_all 4).1 hP197
              have hl2_ : xs191.length = 0 := by have q_ := congrArg List.length hx2_; simpa using q_
              refine WL.op (d := 50) (.tuple #[.slice A192 xs191.length c193, .int .i64 (i + 1)]) (k := ?_)
              refine WL.op (d := 59) (.slice A192 xs191.length c193) (k := ?_)
              refine WL.op (d := 60) (.int .i64 (i + 1)) (k := ?_)
              refine WL.op (d := 14) (.slice A192 xs191.length c193) (k := ?_)
              refine WL.op (d := 15) (.int .i64 (i + 1)) (k := ?_)
              refine WL.nil ?_
              refine WX.seqN ?_
              refine WC.seq ?_
              refine WC.region ?_
              refine WL.op (d := 61) (.bool true) (k := ?_)
              refine WL.op (d := 62) (.bool true) (k := ?_)
              refine WL.op (d := 63) (.int .i64 0) (k := ?_)
              refine WL.op (d := 64) (.bool true) (k := ?_)
              refine WL.op (d := 65) (.bool true) (k := ?_)
              refine WL.op (d := 66) (.bool true) (k := ?_)
              refine WL.op (d := 67) (.slice A65 xs64.length c66) (k := ?_)
              refine WL.op (d := 68) (.int .i64 (xs64.length : Int)) (k := ?_)
              refine WL.op (d := 69) (.int .i64 (wrN i)) (k := ?_)
              refine WL.op (d := 70) (.bool ((xs64.length : Int) == (wrN i))) (k := ?_)
              refine WL.op (d := 71) (.bool ((xs64.length : Int) == (wrN i))) (k := ?_)
              refine WL.op (d := 72) (.bool ((xs64.length : Int) == (wrN i))) (k := ?_)
              refine bsplit ((xs64.length : Int) == (wrN i)) (fun h201 => ?_) (fun h201 => ?_)
              · have ph201 := eq_of_beq h201
                refine WL.rw (t := 72) (v := .bool true) (congrArg Value.bool h201) (k := ?_)
                refine WL.op (d := 73) (.int .i64 (i + 1)) (k := ?_)
                refine WL.op (d := 74) (.int .i64 r26) (k := ?_)
                refine WL.opE (d := 75) (.int .i64 (IntKind.i64.wrap (r26 + 1))) (v := .int .i64 (r26 + 1)) (congrArg (Value.int .i64) (IntWalk.i64_in _ (by omega))) (k := ?_)
                refine WL.op (d := 76) (.bool ((i + 1) == (r26 + 1))) (k := ?_)
                refine WL.op (d := 77) (.bool ((i + 1) == (r26 + 1))) (k := ?_)
                refine WL.op (d := 78) (.bool ((i + 1) == (r26 + 1))) (k := ?_)
                refine bsplit ((i + 1) == (r26 + 1)) (fun h202 => ?_) (fun h202 => ?_)
                · have ph202 := eq_of_beq h202
                  refine WL.rw (t := 78) (v := .bool true) (congrArg Value.bool h202) (k := ?_)
                  refine WL.op (d := 79) (.slice A192 xs191.length c193) (k := ?_)
                  refine WL.op (d := 80) (.int .i64 (xs191.length : Int)) (k := ?_)
                  refine WL.op (d := 81) (.bool ((xs191.length : Int) == 0)) (k := ?_)
                  refine WL.op (d := 82) (.bool ((xs191.length : Int) == 0)) (k := ?_)
                  refine WL.op (d := 4) (.bool ((xs191.length : Int) == 0)) (k := ?_)
                  refine WL.nil ?_
                  refine WX.seqN ?_
                  refine WC.ret ?_
                  refine WX.ret (rs := [.tmp 4]) [.bool ((xs191.length : Int) == 0)] (.bool ((xs191.length : Int) == 0)) ⟨(by kernel_rfl), trivial⟩ (k := ?_)
                  exact ⟨ret_bool (by rw [beq_iff_eq]; omega), K⟩
                · have ph202 := ne_of_beq_false h202
                  refine WL.rw (t := 78) (v := .bool false) (congrArg Value.bool h202) (k := ?_)
                  refine WL.skip (d := 79) (k := ?_)
                  refine WL.skip (d := 80) (k := ?_)
                  refine WL.skip (d := 81) (k := ?_)
                  refine WL.op (d := 82) (.bool false) (k := ?_)
                  refine WL.op (d := 4) (.bool false) (k := ?_)
                  refine WL.nil ?_
                  refine WX.seqN ?_
                  refine WC.ret ?_
                  refine WX.ret (rs := [.tmp 4]) [.bool false] (.bool false) ⟨(by kernel_rfl), trivial⟩ (k := ?_)
                  exfalso; omega
              · have ph201 := ne_of_beq_false h201
                refine WL.rw (t := 72) (v := .bool false) (congrArg Value.bool h201) (k := ?_)
                refine WL.skip (d := 73) (k := ?_)
                refine WL.skip (d := 74) (k := ?_)
                refine WL.skip (d := 75) (k := ?_)
                refine WL.skip (d := 76) (k := ?_)
                refine WL.op (d := 77) (.bool false) (k := ?_)
                refine WL.op (d := 78) (.bool false) (k := ?_)
                refine WL.skip (d := 79) (k := ?_)
                refine WL.skip (d := 80) (k := ?_)
                refine WL.skip (d := 81) (k := ?_)
                refine WL.op (d := 82) (.bool false) (k := ?_)
                refine WL.op (d := 4) (.bool false) (k := ?_)
                refine WL.nil ?_
                refine WX.seqN ?_
                refine WC.ret ?_
                refine WX.ret (rs := [.tmp 4]) [.bool false] (.bool false) ⟨(by kernel_rfl), trivial⟩ (k := ?_)
                exfalso; omega
            · have ph182 := ne_of_beq_false h182
              have h203 : (wh % 8 != 4) = true := bne_iff_ne.2 (by omega)
              refine bsplit (wh % 8 == 5) (fun h204 => ?_) (fun h204 => ?_)
              · have ph204 := eq_of_beq h204
                have h205 : (wh % 8 != 5) = false := bne_eq_false_iff_eq.2 (by omega)
                have h206 : (wh % 8 == 6) = false := beq_eq_false_iff_ne.2 (by omega)
                have h207 : (wh % 8 != 6) = true := bne_iff_ne.2 (by omega)
                have h208 : (wh % 8 == 7) = false := beq_eq_false_iff_ne.2 (by omega)
                have h209 : (wh % 8 != 7) = true := bne_iff_ne.2 (by omega)
                refine WL.rw (t := 53) (v := .int .i64 5) (congrArg (Value.int .i64) (eq_of_beq h204)) (k := ?_)
                refine WL.op (d := 54) (.pointer (some ⟨b3, 5, none⟩)) (k := ?_)
                refine WL.load (v := .string ⟨#[99, 114, 97, 115, 104, 32, 116, 111, 114, 110, 32, 54, 53]⟩) (ld1 (T := 9) (i := 5) hb29) (k := ?_)
                refine WL.bin (d := 56) (v := .string ⟨((lnT (wrU i)) ++ [99, 114, 97, 115, 104, 32, 116, 111, 114, 110, 32, 54, 53]).toArray⟩) (cat_run (by (try simp only [List.length_append, List.length_cons, List.length_nil]); omega)) (k := ?_)
                refine WL.bin (d := 57) (v := .string ⟨((lnT (wrU i)) ++ [99, 114, 97, 115, 104, 32, 116, 111, 114, 110, 32, 54, 53] ++ [10, 115, 116, 97, 114, 116]).toArray⟩) (cat_run (by (try simp only [List.length_append, List.length_cons, List.length_nil]); omega)) (k := ?_)
                obtain ⟨Y57, hY57, lY57⟩ : ∃ Y, (lnT (wrU i)) ++ [99, 114, 97, 115, 104, 32, 116, 111, 114, 110, 32, 54, 53] ++ [10, 115, 116, 97, 114, 116] = Y ∧ Y.length ≤ 200 := ⟨_, rfl, by simp only [List.length_append, List.length_cons, List.length_nil]; omega⟩
                refine WL.rw (t := 57) (v := .string ⟨(Y57).toArray⟩) (congrArg (fun l : List UInt8 => Value.string ⟨l.toArray⟩) hY57) (k := ?_)
                refine WL.callG (d := 58) (f := 7) (args := #[.string ⟨(Y57).toArray⟩]) (lnParse_c (l := Y57) (by first | omega | (simp; done) | (simp; omega)) (hG.keeps K (fun _ _ x => x))) (k := fun e_ w210 h_ => ?_)
                obtain ⟨xs211, A212, c213, n214, rfl, ho215, hF216, hP217, k218, ol219⟩ := h_
                refine ⟨_, rfl, ?_⟩
                have ol220 := fun i h => Nat.le_trans K.size (ol219 i h)
                replace hb29 := k218.heap hb29 id
                replace hb30 := k218.heap hb30 id
                replace ho68 := ho68.adds k218
                replace hF69 := hF69.adds k218
                replace K := K.trans (k218.any _)
                clear ol219
                rw [← hY57, show ∀ X r : List UInt8, X ++ [99, 114, 97, 115, 104, 32, 116, 111, 114, 110, 32, 54, 53] ++ r = X ++ (wbW 5 ++ r) from fun X r => List.append_assoc _ _ _] at hP217
                obtain ⟨hx2_, rfl⟩ := wr_bad i0 (wb_all 5).2.1 (wb_all 5).1 hP217
                have hl2_ : xs211.length = 0 := by have q_ := congrArg List.length hx2_; simpa using q_
                refine WL.op (d := 50) (.tuple #[.slice A212 xs211.length c213, .int .i64 (i + 1)]) (k := ?_)
                refine WL.op (d := 59) (.slice A212 xs211.length c213) (k := ?_)
                refine WL.op (d := 60) (.int .i64 (i + 1)) (k := ?_)
                refine WL.op (d := 14) (.slice A212 xs211.length c213) (k := ?_)
                refine WL.op (d := 15) (.int .i64 (i + 1)) (k := ?_)
                refine WL.nil ?_
                refine WX.seqN ?_
                refine WC.seq ?_
                refine WC.region ?_
                refine WL.op (d := 61) (.bool true) (k := ?_)
                refine WL.op (d := 62) (.bool true) (k := ?_)
                refine WL.op (d := 63) (.int .i64 0) (k := ?_)
                refine WL.op (d := 64) (.bool true) (k := ?_)
                refine WL.op (d := 65) (.bool true) (k := ?_)
                refine WL.op (d := 66) (.bool true) (k := ?_)
                refine WL.op (d := 67) (.slice A65 xs64.length c66) (k := ?_)
                refine WL.op (d := 68) (.int .i64 (xs64.length : Int)) (k := ?_)
                refine WL.op (d := 69) (.int .i64 (wrN i)) (k := ?_)
                refine WL.op (d := 70) (.bool ((xs64.length : Int) == (wrN i))) (k := ?_)
                refine WL.op (d := 71) (.bool ((xs64.length : Int) == (wrN i))) (k := ?_)
                refine WL.op (d := 72) (.bool ((xs64.length : Int) == (wrN i))) (k := ?_)
                refine bsplit ((xs64.length : Int) == (wrN i)) (fun h221 => ?_) (fun h221 => ?_)
                · have ph221 := eq_of_beq h221
                  refine WL.rw (t := 72) (v := .bool true) (congrArg Value.bool h221) (k := ?_)
                  refine WL.op (d := 73) (.int .i64 (i + 1)) (k := ?_)
                  refine WL.op (d := 74) (.int .i64 r26) (k := ?_)
                  refine WL.opE (d := 75) (.int .i64 (IntKind.i64.wrap (r26 + 1))) (v := .int .i64 (r26 + 1)) (congrArg (Value.int .i64) (IntWalk.i64_in _ (by omega))) (k := ?_)
                  refine WL.op (d := 76) (.bool ((i + 1) == (r26 + 1))) (k := ?_)
                  refine WL.op (d := 77) (.bool ((i + 1) == (r26 + 1))) (k := ?_)
                  refine WL.op (d := 78) (.bool ((i + 1) == (r26 + 1))) (k := ?_)
                  refine bsplit ((i + 1) == (r26 + 1)) (fun h222 => ?_) (fun h222 => ?_)
                  · have ph222 := eq_of_beq h222
                    refine WL.rw (t := 78) (v := .bool true) (congrArg Value.bool h222) (k := ?_)
                    refine WL.op (d := 79) (.slice A212 xs211.length c213) (k := ?_)
                    refine WL.op (d := 80) (.int .i64 (xs211.length : Int)) (k := ?_)
                    refine WL.op (d := 81) (.bool ((xs211.length : Int) == 0)) (k := ?_)
                    refine WL.op (d := 82) (.bool ((xs211.length : Int) == 0)) (k := ?_)
                    refine WL.op (d := 4) (.bool ((xs211.length : Int) == 0)) (k := ?_)
                    refine WL.nil ?_
                    refine WX.seqN ?_
                    refine WC.ret ?_
                    refine WX.ret (rs := [.tmp 4]) [.bool ((xs211.length : Int) == 0)] (.bool ((xs211.length : Int) == 0)) ⟨(by kernel_rfl), trivial⟩ (k := ?_)
                    exact ⟨ret_bool (by rw [beq_iff_eq]; omega), K⟩
                  · have ph222 := ne_of_beq_false h222
                    refine WL.rw (t := 78) (v := .bool false) (congrArg Value.bool h222) (k := ?_)
                    refine WL.skip (d := 79) (k := ?_)
                    refine WL.skip (d := 80) (k := ?_)
                    refine WL.skip (d := 81) (k := ?_)
                    refine WL.op (d := 82) (.bool false) (k := ?_)
                    refine WL.op (d := 4) (.bool false) (k := ?_)
                    refine WL.nil ?_
                    refine WX.seqN ?_
                    refine WC.ret ?_
                    refine WX.ret (rs := [.tmp 4]) [.bool false] (.bool false) ⟨(by kernel_rfl), trivial⟩ (k := ?_)
                    exfalso; omega
                · have ph221 := ne_of_beq_false h221
                  refine WL.rw (t := 72) (v := .bool false) (congrArg Value.bool h221) (k := ?_)
                  refine WL.skip (d := 73) (k := ?_)
                  refine WL.skip (d := 74) (k := ?_)
                  refine WL.skip (d := 75) (k := ?_)
                  refine WL.skip (d := 76) (k := ?_)
                  refine WL.op (d := 77) (.bool false) (k := ?_)
                  refine WL.op (d := 78) (.bool false) (k := ?_)
                  refine WL.skip (d := 79) (k := ?_)
                  refine WL.skip (d := 80) (k := ?_)
                  refine WL.skip (d := 81) (k := ?_)
                  refine WL.op (d := 82) (.bool false) (k := ?_)
                  refine WL.op (d := 4) (.bool false) (k := ?_)
                  refine WL.nil ?_
                  refine WX.seqN ?_
                  refine WC.ret ?_
                  refine WX.ret (rs := [.tmp 4]) [.bool false] (.bool false) ⟨(by kernel_rfl), trivial⟩ (k := ?_)
                  exfalso; omega
              · have ph204 := ne_of_beq_false h204
                have h223 : (wh % 8 != 5) = true := bne_iff_ne.2 (by omega)
                refine bsplit (wh % 8 == 6) (fun h224 => ?_) (fun h224 => ?_)
                · have ph224 := eq_of_beq h224
                  have h225 : (wh % 8 != 6) = false := bne_eq_false_iff_eq.2 (by omega)
                  have h226 : (wh % 8 == 7) = false := beq_eq_false_iff_ne.2 (by omega)
                  have h227 : (wh % 8 != 7) = true := bne_iff_ne.2 (by omega)
                  refine WL.rw (t := 53) (v := .int .i64 6) (congrArg (Value.int .i64) (eq_of_beq h224)) (k := ?_)
                  refine WL.op (d := 54) (.pointer (some ⟨b3, 6, none⟩)) (k := ?_)
                  refine WL.load (v := .string ⟨#[114, 101, 109, 111, 118, 101, 32, 49, 48, 50, 52]⟩) (ld1 (T := 9) (i := 6) hb29) (k := ?_)
                  refine WL.bin (d := 56) (v := .string ⟨((lnT (wrU i)) ++ [114, 101, 109, 111, 118, 101, 32, 49, 48, 50, 52]).toArray⟩) (cat_run (by (try simp only [List.length_append, List.length_cons, List.length_nil]); omega)) (k := ?_)
                  refine WL.bin (d := 57) (v := .string ⟨((lnT (wrU i)) ++ [114, 101, 109, 111, 118, 101, 32, 49, 48, 50, 52] ++ [10, 115, 116, 97, 114, 116]).toArray⟩) (cat_run (by (try simp only [List.length_append, List.length_cons, List.length_nil]); omega)) (k := ?_)
                  obtain ⟨Y57, hY57, lY57⟩ : ∃ Y, (lnT (wrU i)) ++ [114, 101, 109, 111, 118, 101, 32, 49, 48, 50, 52] ++ [10, 115, 116, 97, 114, 116] = Y ∧ Y.length ≤ 200 := ⟨_, rfl, by simp only [List.length_append, List.length_cons, List.length_nil]; omega⟩
                  refine WL.rw (t := 57) (v := .string ⟨(Y57).toArray⟩) (congrArg (fun l : List UInt8 => Value.string ⟨l.toArray⟩) hY57) (k := ?_)
                  refine WL.callG (d := 58) (f := 7) (args := #[.string ⟨(Y57).toArray⟩]) (lnParse_c (l := Y57) (by first | omega | (simp; done) | (simp; omega)) (hG.keeps K (fun _ _ x => x))) (k := fun e_ w228 h_ => ?_)
                  obtain ⟨xs229, A230, c231, n232, rfl, ho233, hF234, hP235, k236, ol237⟩ := h_
                  refine ⟨_, rfl, ?_⟩
                  have ol238 := fun i h => Nat.le_trans K.size (ol237 i h)
                  replace hb29 := k236.heap hb29 id
                  replace hb30 := k236.heap hb30 id
                  replace ho68 := ho68.adds k236
                  replace hF69 := hF69.adds k236
                  replace K := K.trans (k236.any _)
                  clear ol237
                  rw [← hY57, show ∀ X r : List UInt8, X ++ [114, 101, 109, 111, 118, 101, 32, 49, 48, 50, 52] ++ r = X ++ (wbW 6 ++ r) from fun X r => List.append_assoc _ _ _] at hP235
                  obtain ⟨hx2_, rfl⟩ := wr_bad i0 (wb_all 6).2.1 (wb_all 6).1 hP235
                  have hl2_ : xs229.length = 0 := by have q_ := congrArg List.length hx2_; simpa using q_
                  refine WL.op (d := 50) (.tuple #[.slice A230 xs229.length c231, .int .i64 (i + 1)]) (k := ?_)
                  refine WL.op (d := 59) (.slice A230 xs229.length c231) (k := ?_)
                  refine WL.op (d := 60) (.int .i64 (i + 1)) (k := ?_)
                  refine WL.op (d := 14) (.slice A230 xs229.length c231) (k := ?_)
                  refine WL.op (d := 15) (.int .i64 (i + 1)) (k := ?_)
                  refine WL.nil ?_
                  refine WX.seqN ?_
                  refine WC.seq ?_
                  refine WC.region ?_
                  refine WL.op (d := 61) (.bool true) (k := ?_)
                  refine WL.op (d := 62) (.bool true) (k := ?_)
                  refine WL.op (d := 63) (.int .i64 0) (k := ?_)
                  refine WL.op (d := 64) (.bool true) (k := ?_)
                  refine WL.op (d := 65) (.bool true) (k := ?_)
                  refine WL.op (d := 66) (.bool true) (k := ?_)
                  refine WL.op (d := 67) (.slice A65 xs64.length c66) (k := ?_)
                  refine WL.op (d := 68) (.int .i64 (xs64.length : Int)) (k := ?_)
                  refine WL.op (d := 69) (.int .i64 (wrN i)) (k := ?_)
                  refine WL.op (d := 70) (.bool ((xs64.length : Int) == (wrN i))) (k := ?_)
                  refine WL.op (d := 71) (.bool ((xs64.length : Int) == (wrN i))) (k := ?_)
                  refine WL.op (d := 72) (.bool ((xs64.length : Int) == (wrN i))) (k := ?_)
                  refine bsplit ((xs64.length : Int) == (wrN i)) (fun h239 => ?_) (fun h239 => ?_)
                  · have ph239 := eq_of_beq h239
                    refine WL.rw (t := 72) (v := .bool true) (congrArg Value.bool h239) (k := ?_)
                    refine WL.op (d := 73) (.int .i64 (i + 1)) (k := ?_)
                    refine WL.op (d := 74) (.int .i64 r26) (k := ?_)
                    refine WL.opE (d := 75) (.int .i64 (IntKind.i64.wrap (r26 + 1))) (v := .int .i64 (r26 + 1)) (congrArg (Value.int .i64) (IntWalk.i64_in _ (by omega))) (k := ?_)
                    refine WL.op (d := 76) (.bool ((i + 1) == (r26 + 1))) (k := ?_)
                    refine WL.op (d := 77) (.bool ((i + 1) == (r26 + 1))) (k := ?_)
                    refine WL.op (d := 78) (.bool ((i + 1) == (r26 + 1))) (k := ?_)
                    refine bsplit ((i + 1) == (r26 + 1)) (fun h240 => ?_) (fun h240 => ?_)
                    · have ph240 := eq_of_beq h240
                      refine WL.rw (t := 78) (v := .bool true) (congrArg Value.bool h240) (k := ?_)
                      refine WL.op (d := 79) (.slice A230 xs229.length c231) (k := ?_)
                      refine WL.op (d := 80) (.int .i64 (xs229.length : Int)) (k := ?_)
                      refine WL.op (d := 81) (.bool ((xs229.length : Int) == 0)) (k := ?_)
                      refine WL.op (d := 82) (.bool ((xs229.length : Int) == 0)) (k := ?_)
                      refine WL.op (d := 4) (.bool ((xs229.length : Int) == 0)) (k := ?_)
                      refine WL.nil ?_
                      refine WX.seqN ?_
                      refine WC.ret ?_
                      refine WX.ret (rs := [.tmp 4]) [.bool ((xs229.length : Int) == 0)] (.bool ((xs229.length : Int) == 0)) ⟨(by kernel_rfl), trivial⟩ (k := ?_)
                      exact ⟨ret_bool (by rw [beq_iff_eq]; omega), K⟩
                    · have ph240 := ne_of_beq_false h240
                      refine WL.rw (t := 78) (v := .bool false) (congrArg Value.bool h240) (k := ?_)
                      refine WL.skip (d := 79) (k := ?_)
                      refine WL.skip (d := 80) (k := ?_)
                      refine WL.skip (d := 81) (k := ?_)
                      refine WL.op (d := 82) (.bool false) (k := ?_)
                      refine WL.op (d := 4) (.bool false) (k := ?_)
                      refine WL.nil ?_
                      refine WX.seqN ?_
                      refine WC.ret ?_
                      refine WX.ret (rs := [.tmp 4]) [.bool false] (.bool false) ⟨(by kernel_rfl), trivial⟩ (k := ?_)
                      exfalso; omega
                  · have ph239 := ne_of_beq_false h239
                    refine WL.rw (t := 72) (v := .bool false) (congrArg Value.bool h239) (k := ?_)
                    refine WL.skip (d := 73) (k := ?_)
                    refine WL.skip (d := 74) (k := ?_)
                    refine WL.skip (d := 75) (k := ?_)
                    refine WL.skip (d := 76) (k := ?_)
                    refine WL.op (d := 77) (.bool false) (k := ?_)
                    refine WL.op (d := 78) (.bool false) (k := ?_)
                    refine WL.skip (d := 79) (k := ?_)
                    refine WL.skip (d := 80) (k := ?_)
                    refine WL.skip (d := 81) (k := ?_)
                    refine WL.op (d := 82) (.bool false) (k := ?_)
                    refine WL.op (d := 4) (.bool false) (k := ?_)
                    refine WL.nil ?_
                    refine WX.seqN ?_
                    refine WC.ret ?_
                    refine WX.ret (rs := [.tmp 4]) [.bool false] (.bool false) ⟨(by kernel_rfl), trivial⟩ (k := ?_)
                    exfalso; omega
                · have ph224 := ne_of_beq_false h224
                  have h241 : (wh % 8 != 6) = true := bne_iff_ne.2 (by omega)
                  have h242 : (wh % 8 == 7) = true := beq_iff_eq.2 (by omega)
                  have h243 : (wh % 8 != 7) = false := bne_eq_false_iff_eq.2 (by omega)
                  refine WL.rw (t := 53) (v := .int .i64 7) (congrArg (Value.int .i64) (eq_of_beq h242)) (k := ?_)
                  refine WL.op (d := 54) (.pointer (some ⟨b3, 7, none⟩)) (k := ?_)
                  refine WL.load (v := .string ⟨#[83, 116, 97, 114, 116]⟩) (ld1 (T := 9) (i := 7) hb29) (k := ?_)
                  refine WL.bin (d := 56) (v := .string ⟨((lnT (wrU i)) ++ [83, 116, 97, 114, 116]).toArray⟩) (cat_run (by (try simp only [List.length_append, List.length_cons, List.length_nil]); omega)) (k := ?_)
                  refine WL.bin (d := 57) (v := .string ⟨((lnT (wrU i)) ++ [83, 116, 97, 114, 116] ++ [10, 115, 116, 97, 114, 116]).toArray⟩) (cat_run (by (try simp only [List.length_append, List.length_cons, List.length_nil]); omega)) (k := ?_)
                  obtain ⟨Y57, hY57, lY57⟩ : ∃ Y, (lnT (wrU i)) ++ [83, 116, 97, 114, 116] ++ [10, 115, 116, 97, 114, 116] = Y ∧ Y.length ≤ 200 := ⟨_, rfl, by simp only [List.length_append, List.length_cons, List.length_nil]; omega⟩
                  refine WL.rw (t := 57) (v := .string ⟨(Y57).toArray⟩) (congrArg (fun l : List UInt8 => Value.string ⟨l.toArray⟩) hY57) (k := ?_)
                  refine WL.callG (d := 58) (f := 7) (args := #[.string ⟨(Y57).toArray⟩]) (lnParse_c (l := Y57) (by first | omega | (simp; done) | (simp; omega)) (hG.keeps K (fun _ _ x => x))) (k := fun e_ w244 h_ => ?_)
                  obtain ⟨xs245, A246, c247, n248, rfl, ho249, hF250, hP251, k252, ol253⟩ := h_
                  refine ⟨_, rfl, ?_⟩
                  have ol254 := fun i h => Nat.le_trans K.size (ol253 i h)
                  replace hb29 := k252.heap hb29 id
                  replace hb30 := k252.heap hb30 id
                  replace ho68 := ho68.adds k252
                  replace hF69 := hF69.adds k252
                  replace K := K.trans (k252.any _)
                  clear ol253
                  rw [← hY57, show ∀ X r : List UInt8, X ++ [83, 116, 97, 114, 116] ++ r = X ++ (wbW 7 ++ r) from fun X r => List.append_assoc _ _ _] at hP251
                  obtain ⟨hx2_, rfl⟩ := wr_bad i0 (wb_all 7).2.1 (wb_all 7).1 hP251
                  have hl2_ : xs245.length = 0 := by have q_ := congrArg List.length hx2_; simpa using q_
                  refine WL.op (d := 50) (.tuple #[.slice A246 xs245.length c247, .int .i64 (i + 1)]) (k := ?_)
                  refine WL.op (d := 59) (.slice A246 xs245.length c247) (k := ?_)
                  refine WL.op (d := 60) (.int .i64 (i + 1)) (k := ?_)
                  refine WL.op (d := 14) (.slice A246 xs245.length c247) (k := ?_)
                  refine WL.op (d := 15) (.int .i64 (i + 1)) (k := ?_)
                  refine WL.nil ?_
                  refine WX.seqN ?_
                  refine WC.seq ?_
                  refine WC.region ?_
                  refine WL.op (d := 61) (.bool true) (k := ?_)
                  refine WL.op (d := 62) (.bool true) (k := ?_)
                  refine WL.op (d := 63) (.int .i64 0) (k := ?_)
                  refine WL.op (d := 64) (.bool true) (k := ?_)
                  refine WL.op (d := 65) (.bool true) (k := ?_)
                  refine WL.op (d := 66) (.bool true) (k := ?_)
                  refine WL.op (d := 67) (.slice A65 xs64.length c66) (k := ?_)
                  refine WL.op (d := 68) (.int .i64 (xs64.length : Int)) (k := ?_)
                  refine WL.op (d := 69) (.int .i64 (wrN i)) (k := ?_)
                  refine WL.op (d := 70) (.bool ((xs64.length : Int) == (wrN i))) (k := ?_)
                  refine WL.op (d := 71) (.bool ((xs64.length : Int) == (wrN i))) (k := ?_)
                  refine WL.op (d := 72) (.bool ((xs64.length : Int) == (wrN i))) (k := ?_)
                  refine bsplit ((xs64.length : Int) == (wrN i)) (fun h255 => ?_) (fun h255 => ?_)
                  · have ph255 := eq_of_beq h255
                    refine WL.rw (t := 72) (v := .bool true) (congrArg Value.bool h255) (k := ?_)
                    refine WL.op (d := 73) (.int .i64 (i + 1)) (k := ?_)
                    refine WL.op (d := 74) (.int .i64 r26) (k := ?_)
                    refine WL.opE (d := 75) (.int .i64 (IntKind.i64.wrap (r26 + 1))) (v := .int .i64 (r26 + 1)) (congrArg (Value.int .i64) (IntWalk.i64_in _ (by omega))) (k := ?_)
                    refine WL.op (d := 76) (.bool ((i + 1) == (r26 + 1))) (k := ?_)
                    refine WL.op (d := 77) (.bool ((i + 1) == (r26 + 1))) (k := ?_)
                    refine WL.op (d := 78) (.bool ((i + 1) == (r26 + 1))) (k := ?_)
                    refine bsplit ((i + 1) == (r26 + 1)) (fun h256 => ?_) (fun h256 => ?_)
                    · have ph256 := eq_of_beq h256
                      refine WL.rw (t := 78) (v := .bool true) (congrArg Value.bool h256) (k := ?_)
                      refine WL.op (d := 79) (.slice A246 xs245.length c247) (k := ?_)
                      refine WL.op (d := 80) (.int .i64 (xs245.length : Int)) (k := ?_)
                      refine WL.op (d := 81) (.bool ((xs245.length : Int) == 0)) (k := ?_)
                      refine WL.op (d := 82) (.bool ((xs245.length : Int) == 0)) (k := ?_)
                      refine WL.op (d := 4) (.bool ((xs245.length : Int) == 0)) (k := ?_)
                      refine WL.nil ?_
                      refine WX.seqN ?_
                      refine WC.ret ?_
                      refine WX.ret (rs := [.tmp 4]) [.bool ((xs245.length : Int) == 0)] (.bool ((xs245.length : Int) == 0)) ⟨(by kernel_rfl), trivial⟩ (k := ?_)
                      exact ⟨ret_bool (by rw [beq_iff_eq]; omega), K⟩
                    · have ph256 := ne_of_beq_false h256
                      refine WL.rw (t := 78) (v := .bool false) (congrArg Value.bool h256) (k := ?_)
                      refine WL.skip (d := 79) (k := ?_)
                      refine WL.skip (d := 80) (k := ?_)
                      refine WL.skip (d := 81) (k := ?_)
                      refine WL.op (d := 82) (.bool false) (k := ?_)
                      refine WL.op (d := 4) (.bool false) (k := ?_)
                      refine WL.nil ?_
                      refine WX.seqN ?_
                      refine WC.ret ?_
                      refine WX.ret (rs := [.tmp 4]) [.bool false] (.bool false) ⟨(by kernel_rfl), trivial⟩ (k := ?_)
                      exfalso; omega
                  · have ph255 := ne_of_beq_false h255
                    refine WL.rw (t := 72) (v := .bool false) (congrArg Value.bool h255) (k := ?_)
                    refine WL.skip (d := 73) (k := ?_)
                    refine WL.skip (d := 74) (k := ?_)
                    refine WL.skip (d := 75) (k := ?_)
                    refine WL.skip (d := 76) (k := ?_)
                    refine WL.op (d := 77) (.bool false) (k := ?_)
                    refine WL.op (d := 78) (.bool false) (k := ?_)
                    refine WL.skip (d := 79) (k := ?_)
                    refine WL.skip (d := 80) (k := ?_)
                    refine WL.skip (d := 81) (k := ?_)
                    refine WL.op (d := 82) (.bool false) (k := ?_)
                    refine WL.op (d := 4) (.bool false) (k := ?_)
                    refine WL.nil ?_
                    refine WX.seqN ?_
                    refine WC.ret ?_
                    refine WX.ret (rs := [.tmp 4]) [.bool false] (.bool false) ⟨(by kernel_rfl), trivial⟩ (k := ?_)
                    exfalso; omega
end Go.Proofs.YtoeinhlmkpgjhaaDoor
namespace Go.Proofs.YtoeinhlmkpgjhaaDoor
open Go.RowKit
set_option linter.unusedVariables false
theorem gb_ofw {W : World} (hsh : W.ShapedOpen Tryd.prog) (hL : laidMetH Tryd.prog Rows.linesWrongRow.laid W) : GB W := by
  refine ⟨?_, ?_, ?_⟩
  · exact cell_of_shapedOpen_int hsh (of_decide_eq_true (by kernel_rfl)) (zero := #[.int .i64 0]) (t := 3) (by kernel_rfl) rfl (by kernel_rfl) (by kernel_rfl) Tryd.underlying3
  · have h := hL.filter (fun x => x.1 == "internal/strconv.uint64pow10")
    rw [MakeChecks.laidMetH_plain _ _ _ (by kernel_rfl)] at h
    exact Lib.tabIs_of_head (rest := []) (n := 20) (e := 115) (g := 1) (t := (((Tryd.prog.globals[1]?).map (·.type)).getD 0)) (by kernel_rfl) (by kernel_rfl) (by kernel_rfl) (by kernel_rfl) (by kernel_rfl) (by kernel_rfl) h
  · have e : (((begin Tryd.prog (fun _ _ => 0) default).world.heap[5]?).bind Obj.row?).isSome = true := by kernel_rfl
    obtain ⟨⟨z, t⟩, hz⟩ := Option.isSome_iff_exists.1 e
    obtain ⟨cs, hh, _⟩ := hsh.1 5 z t (of_decide_eq_true (by kernel_rfl)) hz
    exact lt_of_heap hh
end Go.Proofs.YtoeinhlmkpgjhaaDoor
namespace Go.Proofs.YtoeinhlmkpgjhaaDoor
open Go.RowKit
set_option linter.unusedVariables false
set_option linter.unusedSimpArgs false
theorem splitL_app (c : UInt8) (r : List UInt8) : ∀ l : List UInt8, splitL c (l ++ c :: r) = splitL c l ++ splitL c r
  | [] => by
    rw [List.nil_append]
    show (if c = c then [] :: splitL c r else _) = _
    rw [if_pos rfl]; rfl
  | x :: l => by
    have ih := splitL_app c r l
    by_cases hx : x = c
    · rw [List.cons_append, splitL, if_pos hx, splitL, if_pos hx, ih]; rfl
    · rw [List.cons_append, splitL, if_neg hx, splitL, if_neg hx, ih]
      cases h : splitL c l with
      | nil => have := splitL_len c l; rw [h] at this; simp at this
      | cons y ys => rfl
theorem words_pre (l : List UInt8) : wordsL (32 :: l) = wordsL l := by
  unfold wordsL
  rw [show (32 : UInt8) :: l = [] ++ 32 :: l from rfl, splitL_app]; rfl
theorem words_post (l : List UInt8) : wordsL (l ++ [32]) = wordsL l := by
  unfold wordsL
  rw [splitL_app, List.filter_append]; simp [splitL]
theorem joinL_cons2 (c : UInt8) (x y : List UInt8) (ys : Words) : joinL c (x :: y :: ys) = x ++ c :: joinL c (y :: ys) := by
  unfold joinL Lib.join
  simp [List.intercalate, List.intersperse]
theorem joinL_one (c : UInt8) (x : List UInt8) : joinL c [x] = x := by
  unfold joinL Lib.join
  simp [List.intercalate, List.intersperse]
theorem split_join {c : UInt8} : ∀ {xs : Words}, xs ≠ [] → (∀ x ∈ xs, c ∉ x) → splitL c (joinL c xs) = xs
  | [], h, _ => absurd rfl h
  | [x], _, h => by rw [joinL_one, splitL_none (h x (List.mem_cons_self ..))]
  | x :: y :: ys, _, h => by
    rw [joinL_cons2, splitL_cut (h x (List.mem_cons_self ..)), split_join (by simp) fun z hz => h z (List.mem_cons_of_mem _ hz)]
def wdP (x : List UInt8) : Prop := x ≠ [] ∧ ∀ c ∈ x, 32 < c.toNat
theorem words_join {xs : Words} (h0 : xs ≠ []) (h : ∀ x ∈ xs, wdP x) : wordsL (joinL 32 xs) = xs := by
  unfold wordsL
  rw [split_join h0 fun x hx k => absurd ((h x hx).2 32 k) (by decide)]
  exact List.filter_eq_self.2 fun x hx => decide_eq_true (h x hx).1
theorem join_no {xs : Words} (h : ∀ x ∈ xs, wdP x) : ∀ c ∈ joinL 32 xs, 32 ≤ c.toNat := by
  induction xs with
  | nil => intro c hc; simp [joinL, Lib.join, List.intercalate] at hc
  | cons x xs ih =>
    intro c hc
    have hx := (h x (List.mem_cons_self ..)).2
    cases xs with
    | nil => rw [joinL_one] at hc; exact Nat.le_of_lt (hx c hc)
    | cons y ys =>
      rw [joinL_cons2] at hc
      rcases List.mem_append.1 hc with hc | hc
      · exact Nat.le_of_lt (hx c hc)
      · rcases List.mem_cons.1 hc with rfl | hc
        · decide
        · exact ih (fun z hz => h z (List.mem_cons_of_mem _ hz)) c hc
theorem wd_itoa {n : Int} (h : 0 ≤ n) : wdP (Lib.itoa n) := by
  obtain ⟨u, rfl⟩ : ∃ u : Nat, n = u := ⟨n.toNat, by omega⟩
  rw [Lib.itoa_nonneg]
  refine ⟨dd_ne u, fun c hc => ?_⟩
  have := dd_all u c hc
  unfold digB at this
  simp at this; omega
theorem wd_task {t : GTask} (h : t.ok) : wdP (taskW t) := by
  obtain ⟨h1, h2, h3, h4, h5, h6, h7, h8⟩ := id h
  rw [task_word h, joinL_4]
  refine ⟨by simp, fun c hc => ?_⟩
  have k : ∀ {n : Int}, 0 ≤ n → c ∈ Lib.itoa n → 32 < c.toNat := fun h hc => (wd_itoa h).2 c hc
  simp only [List.mem_append, List.mem_cons] at hc
  rcases hc with hc | rfl | hc | rfl | hc | rfl | hc | rfl | hc
  · exact k h1 hc
  · decide
  · exact k (by omega) hc
  · decide
  · exact k (by omega) hc
  · decide
  · exact k (by omega) hc
  · decide
  · exact k (by omega) hc
theorem numF_itoa {n : Int} (h0 : 0 ≤ n) (h1 : n ≤ 2147483648) (t : Words) : ∃ u : Nat, (u : Int) = n ∧ numF (Lib.itoa n :: t) = some (u, t) := by
  obtain ⟨h, e⟩ := num_itoa h0 h1
  refine ⟨_, e, ?_⟩
  unfold numF nextF
  rw [Option.bind_some, if_pos h]
theorem chg_rt {o : GOp} (h : o.ok) : ∃ x t, opW o = x :: t ∧ chgF x t = some (o, []) ∧ (x = kServe ∨ x = kAdmit ∨ x = kRemove ∨ x = kResize ∨ x = kMode) ∧ ∀ y ∈ opW o, wdP y := by
  obtain ⟨hb, hr⟩ := h
  unfold GOp.right at hr
  by_cases k1 : o.kind = 1
  · rw [if_pos k1] at hr
    obtain ⟨ht, hs⟩ := hr
    have hv := task_rt ht
    have e : o = ⟨1, o.task, o.sv, 0, 0, 0⟩ := by conv => lhs; rw [hb, GOp.bare, if_pos k1]
    refine ⟨if o.sv then kServe else kAdmit, [taskW o.task], by rw [opW, if_pos k1], ?_, ?_, ?_⟩
    · have hk : tskF [taskW o.task] = some (o.task, []) := by
        unfold tskF nextF
        rw [Option.bind_some, if_pos (of_decide_eq_true hv.2), hv.1]
      unfold chgF
      cases hsv : o.sv with
      | true => rw [if_pos (.inr (by simp)), hk, Option.bind_some]; rw [e, hsv]; rfl
      | false => rw [if_pos (.inl (by simp)), hk, Option.bind_some]; rw [e, hsv]; rfl
    · cases o.sv <;> simp
    · rw [opW, if_pos k1]
      intro y hy
      simp only [List.mem_cons, List.not_mem_nil, or_false] at hy
      rcases hy with rfl | rfl
      · cases o.sv <;> exact ⟨by decide, by decide⟩
      · exact wd_task ht
  · rw [if_neg k1] at hr
    by_cases k2 : o.kind = 2
    · rw [if_pos k2] at hr
      have e : o = ⟨2, ⟨0, 0, 0, 0, 0⟩, false, o.id, 0, 0⟩ := by conv => lhs; rw [hb, GOp.bare, if_neg k1, if_pos k2]
      obtain ⟨u, hu, hn⟩ := numF_itoa hr.1 (by omega) []
      refine ⟨kRemove, [Lib.itoa o.id], by rw [opW, if_neg k1, if_pos k2], ?_, by simp, ?_⟩
      · rw [chgF, if_neg (by decide), if_pos rfl, hn, Option.bind_some]
        simp only [hu]; rw [← e]
      · rw [opW, if_neg k1, if_pos k2]
        intro y hy
        simp only [List.mem_cons, List.not_mem_nil, or_false] at hy
        rcases hy with rfl | rfl
        · exact ⟨by decide, by decide⟩
        · exact wd_itoa hr.1
    · rw [if_neg k2] at hr
      by_cases k3 : o.kind = 3
      · rw [if_pos k3] at hr
        have e : o = ⟨3, ⟨0, 0, 0, 0, 0⟩, false, o.id, o.c, 0⟩ := by conv => lhs; rw [hb, GOp.bare, if_neg k1, if_neg k2, if_pos k3]
        obtain ⟨u, hu, hn⟩ := numF_itoa hr.1 (by omega) [Lib.itoa o.c]
        obtain ⟨v, hv, hm⟩ := numF_itoa (n := o.c) (by omega) hr.2.2.2 []
        refine ⟨kResize, [Lib.itoa o.id, Lib.itoa o.c], by rw [opW, if_neg k1, if_neg k2, if_pos k3], ?_, by simp, ?_⟩
        · rw [chgF, if_neg (by decide), if_neg (by decide), if_pos rfl, hn, Option.bind_some, hm, Option.bind_some]
          simp only [hu, hv]; rw [← e]
        · rw [opW, if_neg k1, if_neg k2, if_pos k3]
          intro y hy
          simp only [List.mem_cons, List.not_mem_nil, or_false] at hy
          rcases hy with rfl | rfl | rfl
          · exact ⟨by decide, by decide⟩
          · exact wd_itoa hr.1
          · exact wd_itoa (by omega)
      · rw [if_neg k3] at hr
        by_cases k4 : o.kind = 4
        · rw [if_pos k4] at hr
          have e : o = ⟨4, ⟨0, 0, 0, 0, 0⟩, false, 0, 0, o.m⟩ := by conv => lhs; rw [hb, GOp.bare, if_neg k1, if_neg k2, if_neg k3, if_pos k4]
          obtain ⟨u, hu, hn⟩ := numF_itoa hr.1 (by omega) []
          refine ⟨kMode, [Lib.itoa o.m], by rw [opW, if_neg k1, if_neg k2, if_neg k3], ?_, by simp, ?_⟩
          · rw [chgF, if_neg (by decide), if_neg (by decide), if_neg (by decide), if_pos rfl, hn, Option.bind_some]
            simp only [hu]; rw [← e]
          · rw [opW, if_neg k1, if_neg k2, if_neg k3]
            intro y hy
            simp only [List.mem_cons, List.not_mem_nil, or_false] at hy
            rcases hy with rfl | rfl
            · exact ⟨by decide, by decide⟩
            · exact wd_itoa hr.1
        · rw [if_neg k4] at hr
          exact hr.elim
theorem fat_rt : ∀ {fs : List GFate}, (∀ f ∈ fs, f.ok) → (∀ f ∈ fs, fateP f) → fatF (fs.flatMap fateW) = some fs ∧ ∀ y ∈ fs.flatMap fateW, wdP y
  | [], _, _ => ⟨rfl, fun y hy => by simp at hy⟩
  | f :: fs, h, hp => by
    obtain ⟨i1, i2⟩ := fat_rt (fun g hg => h g (List.mem_cons_of_mem _ hg)) (fun g hg => hp g (List.mem_cons_of_mem _ hg))
    have hf := h f (List.mem_cons_self ..)
    have hq := hp f (List.mem_cons_self ..)
    unfold GFate.ok at hf
    unfold fateP at hq
    rw [List.flatMap_cons]
    obtain ⟨k, a⟩ := f
    simp only at hf hq
    generalize hX : fs.flatMap fateW = X at i1 i2 ⊢
    have key : fatF (fateW ⟨k, a⟩ ++ X) = some (⟨k, a⟩ :: fs) ∧ ∀ y ∈ fateW ⟨k, a⟩, wdP y := by
      unfold fateW
      by_cases k2 : k = 2
      · subst k2
        obtain ⟨u, hu, hn⟩ := numF_itoa (n := a) hf.2.2.1 (by omega) X
        refine ⟨?_, fun y hy => ?_⟩
        · rw [if_pos rfl, List.cons_append, List.cons_append, List.nil_append, fatF_cons, fatS, if_neg (by decide), if_neg (by decide), if_pos rfl]
          show (Option.map _ (numF (Lib.itoa a :: X))).bind _ = _
          rw [hn]
          simp only [Option.map_some, Option.bind_some, i1, hu]
        · simp only [if_true, List.mem_cons, List.not_mem_nil, or_false] at hy
          rcases hy with rfl | rfl
          · exact ⟨by decide, by decide⟩
          · exact wd_itoa hf.2.2.1
      · have ha : a = 0 := hq.resolve_left k2
        subst ha
        by_cases k1 : k = 1
        · subst k1
          refine ⟨?_, fun y hy => ?_⟩
          · rw [if_neg k2, if_pos rfl, List.cons_append, List.nil_append, fatF_cons, fatS, if_neg (by decide), if_pos rfl]
            simp only [Option.map_some, Option.bind_some, i1]
          · rw [if_neg k2, if_pos rfl] at hy
            rw [List.mem_singleton.1 hy]
            exact ⟨by decide, by decide⟩
        · have k0 : k = 0 := by omega
          subst k0
          refine ⟨?_, fun y hy => ?_⟩
          · rw [if_neg k2, if_neg k1, List.cons_append, List.nil_append, fatF_cons, fatS, if_pos rfl]
            simp only [Option.map_some, Option.bind_some, i1]
          · rw [if_neg k2, if_neg k1] at hy
            rw [List.mem_singleton.1 hy]
            exact ⟨by decide, by decide⟩
    refine ⟨key.1, fun y hy => ?_⟩
    rcases List.mem_append.1 hy with hy | hy
    · exact key.2 y hy
    · exact i2 y hy
theorem cmd_rt {p : PCmd} (h : lineB p = true) : cmdF (cmdW p) = some p ∧ cmdW p ≠ [] ∧ (∀ y ∈ cmdW p, wdP y) ∧ ¬ (((cmdW p).headD []).getD 0 0).toNat = 59 := by
  have hok := lineB_ok h
  obtain ⟨hb, hr, hf, ho⟩ := id hok
  have ck := cok_eqt hok
  unfold PCmd.rngs at hr
  by_cases k1 : p.kind = 1
  · have e : p = ⟨1, p.op, 0, 0, 0, []⟩ := by conv => lhs; rw [hb, PCmd.bare, if_pos k1]
    obtain ⟨x, t, hw, hc, hx, hwd⟩ := chg_rt (ho k1)
    have hW : cmdW p = x :: t := by rw [cmdW, if_pos k1, hw]
    rw [hW]
    have hxx : ¬ (x = kRelease ∨ x = kAsk ∨ x = kTick ∨ x = kFail ∨ x = kQuery ∨ x = kSnapshot ∨ x = kStart ∨ x = kCrash) ∧ ¬ (x.getD 0 0).toNat = 59 := by
      rcases hx with rfl | rfl | rfl | rfl | rfl <;> decide
    refine ⟨cmdF_y (x := x) (t := t) (u := []) rfl ((cmd_chg hc (eq_false hxx.1)).trans ?_) rfl ck, by simp, fun y hy => hwd y (by rw [hw]; exact hy), hxx.2⟩
    rw [← e]
  · by_cases k2 : p.kind = 2
    · have e : p = ⟨2, GOp.zero, p.id, p.work, 0, []⟩ := by conv => lhs; rw [hb, PCmd.bare, if_neg k1, if_pos (.inl k2), k2]
      have hW : cmdW p = [kRelease, Lib.itoa p.id, Lib.itoa p.work] := by rw [cmdW, if_neg k1, if_pos k2]
      obtain ⟨u, hu, hn⟩ := numF_itoa (n := p.id) (by omega) (by omega) [Lib.itoa p.work]
      obtain ⟨v, hv, hm⟩ := numF_itoa (n := p.work) (by omega) (by omega) []
      rw [hW]
      refine ⟨cmdF_y (u := []) rfl ?_ rfl ck, by simp, fun y hy => ?_, by first | decide | (simp; done)⟩
      · rw [bodF, if_pos rfl, wrkF, hn, Option.bind_some, hm, Option.bind_some]
        simp only [hu, hv]; rw [← e]
      · simp only [List.mem_cons, List.not_mem_nil, or_false] at hy
        rcases hy with rfl | rfl | rfl
        · exact ⟨by decide, by decide⟩
        · exact wd_itoa (by omega)
        · exact wd_itoa (by omega)
    · by_cases k3 : p.kind = 3
      · have e : p = ⟨3, GOp.zero, p.id, p.work, 0, []⟩ := by conv => lhs; rw [hb, PCmd.bare, if_neg k1, if_pos (.inr k3), k3]
        have hW : cmdW p = [kAsk, Lib.itoa p.id, Lib.itoa p.work] := by rw [cmdW, if_neg k1, if_neg k2, if_pos k3]
        obtain ⟨u, hu, hn⟩ := numF_itoa (n := p.id) (by omega) (by omega) [Lib.itoa p.work]
        obtain ⟨v, hv, hm⟩ := numF_itoa (n := p.work) (by omega) (by omega) []
        rw [hW]
        refine ⟨cmdF_y (u := []) rfl ?_ rfl ck, by simp, fun y hy => ?_, by first | decide | (simp; done)⟩
        · rw [bodF, if_neg (by decide), if_pos rfl, wrkF, hn, Option.bind_some, hm, Option.bind_some]
          simp only [hu, hv]; rw [← e]
        · simp only [List.mem_cons, List.not_mem_nil, or_false] at hy
          rcases hy with rfl | rfl | rfl
          · exact ⟨by decide, by decide⟩
          · exact wd_itoa (by omega)
          · exact wd_itoa (by omega)
      · by_cases k4 : p.kind = 4
        · have e : p = ⟨4, GOp.zero, 0, 0, p.n, []⟩ := by conv => lhs; rw [hb, PCmd.bare, if_neg k1, if_neg (by omega), if_pos (.inl k4), k4]
          have hW : cmdW p = [kTick, Lib.itoa p.n] := by rw [cmdW, if_neg k1, if_neg k2, if_neg k3, if_pos k4]
          obtain ⟨u, hu, hn⟩ := numF_itoa (n := p.n) (by omega) (by omega) []
          rw [hW]
          refine ⟨cmdF_y (u := []) rfl ?_ rfl ck, by simp, fun y hy => ?_, by first | decide | (simp; done)⟩
          · rw [bodF, if_neg (by decide), if_neg (by decide), if_pos rfl, hn]
            simp only [Option.map_some, hu]; rw [← e]
          · simp only [List.mem_cons, List.not_mem_nil, or_false] at hy
            rcases hy with rfl | rfl
            · exact ⟨by decide, by decide⟩
            · exact wd_itoa (by omega)
        · by_cases k5 : p.kind = 5
          · have e : p = ⟨5, GOp.zero, p.id, 0, 0, []⟩ := by conv => lhs; rw [hb, PCmd.bare, if_neg k1, if_neg (by omega), if_neg (by omega), if_pos k5]
            have hW : cmdW p = [kQuery, Lib.itoa p.id] := by rw [cmdW, if_neg k1, if_neg k2, if_neg k3, if_neg k4, if_pos k5]
            obtain ⟨u, hu, hn⟩ := numF_itoa (n := p.id) (by omega) (by omega) []
            rw [hW]
            refine ⟨cmdF_y (u := []) rfl ?_ rfl ck, by simp, fun y hy => ?_, by first | decide | (simp; done)⟩
            · rw [bodF, if_neg (by decide), if_neg (by decide), if_neg (by decide), if_neg (by decide), if_pos rfl, hn]
              simp only [Option.map_some, hu]; rw [← e]
            · simp only [List.mem_cons, List.not_mem_nil, or_false] at hy
              rcases hy with rfl | rfl
              · exact ⟨by decide, by decide⟩
              · exact wd_itoa (by omega)
          · by_cases k6 : p.kind = 6
            · have e : p = ⟨6, GOp.zero, 0, 0, 0, []⟩ := by conv => lhs; rw [hb, PCmd.bare, if_neg k1, if_neg (by omega), if_neg (by omega), if_neg k5, if_neg (by omega), k6]
              have hW : cmdW p = [kSnapshot] := by rw [cmdW, if_neg k1, if_neg k2, if_neg k3, if_neg k4, if_neg k5, if_pos k6]
              rw [hW]
              refine ⟨cmdF_y (u := []) rfl ?_ rfl ck, by simp, fun y hy => ?_, by first | decide | (simp; done)⟩
              · rw [bodF, if_neg (by decide), if_neg (by decide), if_neg (by decide), if_neg (by decide), if_neg (by decide), if_pos rfl, ← e]
              · rw [List.mem_singleton.1 hy]; exact ⟨by decide, by decide⟩
            · by_cases k7 : p.kind = 7
              · have e : p = ⟨7, GOp.zero, 0, 0, p.n, []⟩ := by conv => lhs; rw [hb, PCmd.bare, if_neg k1, if_neg (by omega), if_pos (.inr k7), k7]
                have hW : cmdW p = [kFail, Lib.itoa p.n] := by rw [cmdW, if_neg k1, if_neg k2, if_neg k3, if_neg k4, if_neg k5, if_neg k6, if_pos k7]
                obtain ⟨u, hu, hn⟩ := numF_itoa (n := p.n) (by omega) (by omega) []
                rw [hW]
                refine ⟨cmdF_y (u := []) rfl ?_ rfl ck, by simp, fun y hy => ?_, by first | decide | (simp; done)⟩
                · rw [bodF, if_neg (by decide), if_neg (by decide), if_neg (by decide), if_pos rfl, hn]
                  simp only [Option.map_some, hu]; rw [← e]
                · simp only [List.mem_cons, List.not_mem_nil, or_false] at hy
                  rcases hy with rfl | rfl
                  · exact ⟨by decide, by decide⟩
                  · exact wd_itoa (by omega)
              · by_cases k8 : p.kind = 8
                · have e : p = ⟨8, GOp.zero, 0, 0, 0, p.fs⟩ := by conv => lhs; rw [hb, PCmd.bare, if_neg k1, if_neg (by omega), if_neg (by omega), if_neg k5, if_pos k8]
                  have hW : cmdW p = kCrash :: p.fs.flatMap fateW := by rw [cmdW, if_neg k1, if_neg k2, if_neg k3, if_neg k4, if_neg k5, if_neg k6, if_neg k7, if_pos k8]; rfl
                  have hfp : ∀ f ∈ p.fs, fateP f := by
                    unfold lineB at h
                    simp only [Bool.and_eq_true, Bool.or_eq_true, decide_eq_true_eq] at h
                    have h2 := h.2.resolve_left (fun k => k k8)
                    unfold fatesOk at h2
                    exact fun f hf => of_decide_eq_true (List.all_eq_true.1 h2 f hf)
                  obtain ⟨f1, f2⟩ := fat_rt hf hfp
                  rw [hW]
                  refine ⟨cmdF_y (x := kCrash) (t := p.fs.flatMap fateW) (u := []) rfl ?_ rfl ck, by simp, fun y hy => ?_, by simp⟩
                  · rw [bodF, if_neg (by decide), if_neg (by decide), if_neg (by decide), if_neg (by decide), if_neg (by decide), if_neg (by decide), if_neg (by decide), if_pos rfl, f1, Option.map_some, ← e]
                  · rcases List.mem_cons.1 hy with rfl | hy
                    · exact ⟨by decide, by decide⟩
                    · exact f2 y hy
                · have k9 : p.kind = 9 := by omega
                  have e : p = ⟨9, GOp.zero, 0, 0, 0, []⟩ := by conv => lhs; rw [hb, PCmd.bare, if_neg k1, if_neg (by omega), if_neg (by omega), if_neg k5, if_neg k8, k9]
                  have hW : cmdW p = [kStart] := by rw [cmdW, if_neg k1, if_neg k2, if_neg k3, if_neg k4, if_neg k5, if_neg k6, if_neg k7, if_neg k8, if_pos k9]
                  rw [hW]
                  refine ⟨cmdF_y (u := []) rfl ?_ rfl ck, by simp, fun y hy => ?_, by first | decide | (simp; done)⟩
                  · rw [bodF, if_neg (by decide), if_neg (by decide), if_neg (by decide), if_neg (by decide), if_neg (by decide), if_neg (by decide), if_pos rfl, ← e]
                  · rw [List.mem_singleton.1 hy]; exact ⟨by decide, by decide⟩
theorem line_words {p : PCmd} (h : lineB p = true) : wordsL (lineW p) = cmdW p ∧ (10 : UInt8) ∉ lineW p ∧ lineW p ≠ [] := by
  obtain ⟨h1, h2, h3, h4⟩ := cmd_rt h
  have e : lineW p = joinL 32 (cmdW p) := by rw [lineW, if_pos h]
  have hw : wordsL (lineW p) = cmdW p := by rw [e, words_join h2 h3]
  refine ⟨hw, fun k => ?_, fun k => ?_⟩
  · rw [e] at k
    exact absurd (join_no h3 10 k) (by decide)
  · rw [k] at hw
    exact h2 (hw ▸ (by kernel_rfl : wordsL [] = []))
theorem lineB_iff {p : PCmd} : lineW p ≠ [] ↔ lineB p = true := by
  refine ⟨fun h => ?_, fun h => (line_words h).2.2⟩
  cases e : lineB p with
  | true => rfl
  | false => exact absurd (by rw [lineW, e]; rfl) h
theorem lineC_of {x : List UInt8} {p : PCmd} (h : lineB p = true) (hx : wordsL x = cmdW p) : lineC x = some (some p) := by
  obtain ⟨h1, h2, h3, h4⟩ := cmd_rt h
  cases hc : cmdW p with
  | nil => exact absurd hc h2
  | cons y t =>
    rw [hc] at hx h1 h4
    exact lineC_y (r := y) (by rw [hx]; rfl) h4 (by rw [hx]; exact h1)
theorem got_lines : ∀ {ps : List PCmd}, (∀ p ∈ ps, lineB p = true) → gotL (ps.map lineW) = ps
  | [], _ => rfl
  | p :: ps, h => by
    have ih := got_lines (ps := ps) fun q hq => h q (List.mem_cons_of_mem _ hq)
    have hp := h p (List.mem_cons_self ..)
    unfold gotL at ih ⊢
    rw [List.map_cons, List.filterMap_cons, lineC_of hp (line_words hp).1]
    exact congrArg (p :: ·) ih
theorem text_rt {ps : List PCmd} (h : ∀ p ∈ ps, lineB p = true) : parV (lnT (ps.map lineW)) = (ps, 0) := by
  rw [par_all, got_lines h]
  · intro x hx
    obtain ⟨p, hp, rfl⟩ := List.mem_map.1 hx
    exact (line_words (h p hp)).2.1
  · intro x hx
    obtain ⟨p, hp, rfl⟩ := List.mem_map.1 hx
    rw [lineC_of (h p hp) (line_words (h p hp)).1]; simp
noncomputable def bkW (p : PCmd) : Words := [32 :: (lineW p ++ [32, 32]), [59, 255]]
noncomputable def bkA (ps : List PCmd) : Words := [32] :: ps.flatMap bkW
theorem bk_1 {p : PCmd} (h : lineB p = true) : lineC (32 :: (lineW p ++ [32, 32])) = some (some p) := by
  refine lineC_of h ?_
  rw [words_pre, show lineW p ++ [32, 32] = (lineW p ++ [32]) ++ [32] from by simp, words_post, words_post]
  exact (line_words h).1
theorem bk_0 : lineC [32] = some none := lineC_0 (by rw [show wordsL [32] = [] from by kernel_rfl]; simp)
theorem bk_2 : lineC [59, 255] = some none := lineC_c (r := [59, 255]) (by kernel_rfl) rfl
theorem got_bk : ∀ {ps : List PCmd}, (∀ p ∈ ps, lineB p = true) → gotL (ps.flatMap bkW) = ps
  | [], _ => rfl
  | p :: ps, h => by
    have ih := got_bk (ps := ps) fun q hq => h q (List.mem_cons_of_mem _ hq)
    have hp := h p (List.mem_cons_self ..)
    unfold gotL at ih ⊢
    rw [List.flatMap_cons, List.filterMap_append, ih, bkW]
    simp only [List.filterMap_cons, List.filterMap_nil, bk_1 hp, bk_2, Option.join]
    rfl
theorem back_rt {ps : List PCmd} (h : ∀ p ∈ ps, lineB p = true) : parV (lnT (bkA ps)) = (ps, 0) := by
  rw [par_all]
  · show ((gotL ([32] :: ps.flatMap bkW)), (0 : Int)) = _
    rw [show gotL ([32] :: ps.flatMap bkW) = gotL (ps.flatMap bkW) from by unfold gotL; rw [List.filterMap_cons, bk_0]; rfl, got_bk h]
  all_goals
    intro x hx
    rcases List.mem_cons.1 hx with rfl | hx
    · first | decide | (rw [bk_0]; simp)
    · obtain ⟨p, hp, hx⟩ := List.mem_flatMap.1 hx
      simp only [bkW, List.mem_cons, List.not_mem_nil, or_false] at hx
      have hl := line_words (h p hp)
      rcases hx with rfl | rfl
      · first | (intro k; simp [hl.2.1] at k; done) | (rw [bk_1 (h p hp)]; simp)
      · first | decide | (rw [bk_2]; simp)
theorem bk_succ (ps : List PCmd) (p : PCmd) : lnT (bkA ps) ++ [32] ++ lineW p ++ [32, 32, 10, 59, 255, 10] = lnT (bkA (ps ++ [p])) := by
  simp [lnT, bkA, bkW]
end Go.Proofs.YtoeinhlmkpgjhaaDoor
namespace Go.Proofs.YtoeinhlmkpgjhaaDoor
open Go.RowKit
set_option linter.unusedVariables false
set_option linter.unusedSimpArgs false
def cut66 (c : GCmd) : GCmd := if c.p.fs.length > 66 then ⟨⟨c.p.kind, c.p.op, c.p.id, c.p.work, c.p.n, c.p.fs.take 66⟩, c.A, c.cap⟩ else c
def fewU (l : List GCmd) (i : Int) : List GCmd := (l.take i.toNat).map cut66
def fewL (l : List GCmd) : List GCmd := (l.take 6).map cut66
theorem few_s1 {l : List GCmd} {i : Int} {r : GCmd} (h0 : 0 ≤ i) (hr : l[i.toNat]? = some r) (h : (r.p.fs.length : Int) > 66) : fewU l i ++ [⟨⟨r.p.kind, r.p.op, r.p.id, r.p.work, r.p.n, r.p.fs.take 66⟩, r.A, r.cap⟩] = fewU l (i + 1) := by
  unfold fewU; rw [take_succI h0 hr, List.map_append, List.map_cons, List.map_nil, cut66, if_pos (by omega)]
theorem few_s2 {l : List GCmd} {i : Int} {r : GCmd} (h0 : 0 ≤ i) (hr : l[i.toNat]? = some r) (h : ¬ (r.p.fs.length : Int) > 66) : fewU l i ++ [r] = fewU l (i + 1) := by
  unfold fewU; rw [take_succI h0 hr, List.map_append, List.map_cons, List.map_nil, cut66, if_neg (by omega)]
theorem few_end {l : List GCmd} {i : Int} (h0 : 0 ≤ i) (h6 : i ≤ 6) (h : (l.length : Int) ≤ i ∨ 6 ≤ i) : fewU l i = fewL l := by
  unfold fewU fewL
  by_cases e : i = 6
  · subst e; rfl
  · rw [List.take_of_length_le (by omega), List.take_of_length_le (by omega)]
theorem fewL_len (l : List GCmd) : (fewL l).length ≤ 6 := by simp [fewL]; omega
theorem fewU_len (l : List GCmd) {i : Int} (h6 : i ≤ 6) : (fewU l i).length ≤ 6 := by simp [fewU]; omega
theorem fts_few {n : Nat} {l : List GCmd} {w : World} (h : Fts n l w) : Fts 66 (fewL l) w := fun c hc => by
  obtain ⟨d, hd, rfl⟩ := List.mem_map.1 hc
  obtain ⟨h1, h2, h3⟩ := h d (List.mem_of_mem_take hd)
  unfold cut66
  split
  · rename_i h6
    refine ⟨SlAt.cutT (b := 66) (c := d.cap) h1 (by omega) (by omega), ?_, ?_⟩ <;> simp only [List.length_take] <;> omega
  · exact ⟨h1, h2, by omega⟩
end Go.Proofs.YtoeinhlmkpgjhaaDoor
namespace Go.Proofs.YtoeinhlmkpgjhaaDoor
open Go.RowKit
set_option linter.unusedVariables false
set_option linter.unusedSimpArgs false
noncomputable def textW (ps : List PCmd) : List UInt8 := @ite _ (∀ p ∈ ps, lineB p = true) (Classical.propDecidable _) (lnT (ps.map lineW)) []
theorem textW_ok {ps : List PCmd} (h : ∀ p ∈ ps, lineB p = true) : textW ps = lnT (ps.map lineW) := if_pos h
theorem textW_no {xs : List GCmd} {i : Nat} {r : GCmd} (hr : xs[i]? = some r) (h : lineW r.p = []) : textW (xs.map GCmd.p) = [] := if_neg fun k => lineB_iff.2 (k _ (List.mem_map.2 ⟨r, List.mem_of_getElem? hr, rfl⟩)) h
noncomputable def txU (xs : List GCmd) (i : Int) : List UInt8 := lnT (((xs.take i.toNat).map GCmd.p).map lineW)
def upL (xs : List GCmd) (i : Int) : Prop := ∀ c ∈ xs.take i.toNat, lineB c.p = true
theorem take_succL {xs : List GCmd} {i : Int} {r : GCmd} (h0 : 0 ≤ i) (hr : xs[i.toNat]? = some r) : xs.take (i + 1).toNat = xs.take i.toNat ++ [r] := by
  rw [show (i + 1).toNat = i.toNat + 1 by omega, List.take_add_one, hr]; rfl
theorem txU_succ {xs : List GCmd} {i : Int} {r : GCmd} (h0 : 0 ≤ i) (hr : xs[i.toNat]? = some r) : txU xs i ++ (lineW r.p ++ [10]) = txU xs (i + 1) := by
  unfold txU
  rw [take_succL h0 hr, List.map_append, List.map_append]
  show _ = lnT (_ ++ [lineW r.p])
  rw [lnT_snoc, List.append_assoc]
theorem txU_end {xs : List GCmd} {i : Int} (h : (xs.length : Int) ≤ i) (hu : upL xs i) : txU xs i = textW (xs.map GCmd.p) := by
  unfold txU upL at *
  rw [List.take_of_length_le (by omega)] at hu ⊢
  rw [textW_ok]
  intro p hp
  obtain ⟨c, hc, rfl⟩ := List.mem_map.1 hp
  exact hu c hc
theorem upL_zero (xs : List GCmd) : upL xs 0 := by simp [upL]
theorem upL_succ {xs : List GCmd} {i : Int} {r : GCmd} (h0 : 0 ≤ i) (h : upL xs i) (hr : xs[i.toNat]? = some r) (ho : ¬ lineW r.p = []) : upL xs (i + 1) := by
  unfold upL at *
  rw [take_succL h0 hr]
  intro c hc
  rcases List.mem_append.1 hc with hc | hc
  · exact h c hc
  · rw [List.mem_singleton.1 hc]; exact lineB_iff.1 ho
theorem txU_len {xs : List GCmd} (i : Int) (hn : xs.length ≤ 1000) : (txU xs i).length ≤ 17000000 := by
  unfold txU
  have h := lnT_len (m := 16940) (L := ((xs.take i.toNat).map GCmd.p).map lineW) fun x hx => by
    obtain ⟨p, _, rfl⟩ := List.mem_map.1 hx
    exact lineW_le p
  simp only [List.length_map, List.length_take] at h
  have : min i.toNat xs.length * (16940 + 1) ≤ 1000 * 16941 := Nat.mul_le_mul_right _ (by omega)
  omega
theorem textW_len {ps : List PCmd} (hn : ps.length ≤ 6) : (textW ps).length ≤ 101646 := by
  unfold textW
  split
  · have h := lnT_len (m := 16940) (L := ps.map lineW) fun x hx => by
      obtain ⟨p, _, rfl⟩ := List.mem_map.1 hx
      exact lineW_le p
    rw [List.length_map] at h
    have : ps.length * (16940 + 1) ≤ 6 * 16941 := Nat.mul_le_mul_right _ hn
    omega
  · simp
theorem bWriteString_s (b : Nat) (r : Option Nat) (bs l : List UInt8) (w : World) (hs : l.length ≤ 1000000000) (h : BuR 70 0 b r bs w) (hl : bs.length ≤ 900000000) :
    Calls Tryd.prog 28 #[.pointer (some ⟨b, 0, none⟩), .string ⟨l.toArray⟩] w fun e w' => e = .returned (.tuple #[.int .i64 l.length, .nilIface]) ∧ WrPost 70 b r (bs ++ l) w w' := sbWriteString_r _ b r buT_Builder bs l w h (by omega) hs
theorem bString_t (b : Nat) (r : Option Nat) (bs : List UInt8) (w : World) (h : BuR 70 0 b r bs w) (hl : bs.length ≤ 900000000) :
    Calls Tryd.prog 29 #[.pointer (some ⟨b, 0, none⟩)] w fun e w' => e = .returned (.string ⟨bs.toArray⟩) ∧ WrPost 70 b r bs w w' := by
  refine (sbString_r _ 0 b r bs w h (by omega)).mono ?_
  rintro e w' ⟨h1, h2, h3⟩
  exact ⟨h1, r, h2, .inl rfl, h3.mono fun k _ e => .inr e⟩
noncomputable def lgU (l : List GCmd) (i : Int) : List GCmd := ((fewL l).take i.toNat).filter fun c => lineB c.p
noncomputable def lgL (l : List GCmd) : List GCmd := (fewL l).filter fun c => lineB c.p
theorem lgU_zero (l : List GCmd) : lgU l 0 = [] := by simp [lgU]
theorem lg_s1 {l : List GCmd} {i : Int} {r : GCmd} (h0 : 0 ≤ i) (hr : (fewL l)[i.toNat]? = some r) (h : lineB r.p = true) : lgU l i ++ [r] = lgU l (i + 1) := by
  unfold lgU; rw [take_succL h0 hr, List.filter_append]; simp [h]
theorem lg_s2 {l : List GCmd} {i : Int} {r : GCmd} (h0 : 0 ≤ i) (hr : (fewL l)[i.toNat]? = some r) (h : ¬ lineB r.p = true) : lgU l i = lgU l (i + 1) := by
  unfold lgU; rw [take_succL h0 hr, List.filter_append]; simp [h]
theorem lgU_end {l : List GCmd} {i : Int} (h : ((fewL l).length : Int) ≤ i) : lgU l i = lgL l := by
  unfold lgU lgL; rw [List.take_of_length_le (by omega)]
theorem lgU_len (l : List GCmd) (i : Int) : (lgU l i).length ≤ 6 := by
  have h1 := List.length_filter_le (fun c : GCmd => lineB c.p) ((fewL l).take i.toNat)
  have h2 := fewL_len l
  unfold lgU; rw [List.length_take] at h1; omega
theorem lgL_len (l : List GCmd) : (lgL l).length ≤ 6 := by
  have h1 := List.length_filter_le (fun c : GCmd => lineB c.p) (fewL l)
  have h2 := fewL_len l
  unfold lgL; omega
theorem lgL_ok (l : List GCmd) : ∀ p ∈ (lgL l).map GCmd.p, lineB p = true := fun p hp => by
  obtain ⟨c, hc, rfl⟩ := List.mem_map.1 hp
  exact (List.mem_filter.1 hc).2
theorem fts_lg {n : Nat} {l : List GCmd} {w : World} (h : Fts n l w) : Fts 66 (lgL l) w := fun c hc => fts_few h c (List.mem_filter.1 hc).1
noncomputable def bkS (l : List GCmd) (i : Int) : List UInt8 := lnT (bkA ((lgU l i).map GCmd.p))
theorem bkS_zero (l : List GCmd) : bkS l 0 = [32, 10] := by unfold bkS; rw [lgU_zero]; rfl
theorem bkS_s1 {l : List GCmd} {i : Int} {r : GCmd} (h0 : 0 ≤ i) (hr : (fewL l)[i.toNat]? = some r) (h : ¬ lineW r.p = []) : bkS l i ++ [32] ++ lineW r.p ++ [32, 32, 10, 59, 255, 10] = bkS l (i + 1) := by
  unfold bkS
  rw [← lg_s1 h0 hr (lineB_iff.1 h), List.map_append, bk_succ]; rfl
theorem bkS_s2 {l : List GCmd} {i : Int} {r : GCmd} (h0 : 0 ≤ i) (hr : (fewL l)[i.toNat]? = some r) (h : lineW r.p = []) : bkS l i = bkS l (i + 1) := by
  unfold bkS
  rw [← lg_s2 h0 hr (fun k => lineB_iff.2 k h)]
theorem bkS_len (l : List GCmd) (i : Int) : (bkS l i).length ≤ 102000 := by
  unfold bkS
  have key : ∀ ps : List PCmd, (lnT (bkA ps)).length ≤ 2 + ps.length * 16949 := fun ps => by
    induction ps with
    | nil => simp [bkA, lnT]
    | cons p ps ih =>
      have := lineW_le p
      simp only [bkA, bkW, lnT, List.flatMap_cons, List.flatMap_append, List.flatMap_nil, List.length_append, List.length_cons, List.length_nil] at ih ⊢
      omega
  have h1 := key ((lgU l i).map GCmd.p)
  have h2 := lgU_len l i
  rw [List.length_map] at h1
  omega
theorem bk_p1 {l : List GCmd} {xs : List PCmd} {n : Int} (h : parV (textW ((lgL l).map GCmd.p)) = (xs, n)) : xs = (lgL l).map GCmd.p ∧ n = 0 := by
  rw [textW_ok (lgL_ok l), text_rt (lgL_ok l)] at h
  cases h; exact ⟨rfl, rfl⟩
theorem bk_p2 {l : List GCmd} {i : Int} (hi : ((fewL l).length : Int) ≤ i) {xs : List PCmd} {n : Int} (h : parV (bkS l i) = (xs, n)) : xs = (lgL l).map GCmd.p ∧ n = 0 := by
  unfold bkS at h
  rw [lgU_end hi, back_rt (lgL_ok l)] at h
  cases h; exact ⟨rfl, rfl⟩
end Go.Proofs.YtoeinhlmkpgjhaaDoor
namespace Go.Proofs.YtoeinhlmkpgjhaaDoor
open Go.RowKit
set_option linter.unusedVariables false
set_option linter.unusedSimpArgs false
set_option maxRecDepth 100000 in
set_option maxHeartbeats 4000000 in
theorem l25few_c {L : Option Addr} {lc : Nat} {l : List GCmd} {w : World} (hL : SlAt cmdC 15 42 L l w) (hF : Fts 9223372036854775807 l w) (hl : l.length ≤ 9223372036854775807) : Calls Tryd.prog 10 #[.slice L l.length lc] w fun e w' => ∃ A c, e = .returned (.slice A (fewL l).length c) ∧ OwAt cmdC 15 42 A c (fewL l) w' ∧ Adds w w' ∧ (∀ i, blk A = some i → w.heap.size ≤ i) := by
  have K : Keeps (fun _ => False) w w := Keeps.refl _ w
  refine Calls.start Tryd.func10 rfl (by kernel_rfl) ?_
  refine WC.seq ?_
  refine WC.region ?_
  refine WL.op (d := 2) (.slice none 0 0) (k := ?_)
  refine WL.nil ?_
  refine WX.seqN ?_
  refine WC.seq ?_
  refine WC.region ?_
  refine WL.op (d := 3) (.slice none 0 0) (k := ?_)
  refine WL.nil ?_
  refine WX.seqN ?_
  refine WC.seq ?_
  refine WC.seq ?_
  refine WC.region ?_
  refine WL.op (d := 4) (.int .i64 0) (k := ?_)
  refine WL.nil ?_
  refine WX.seqN ?_
  refine WC.block ?_
  refine WC.loop (ι := Int × (Option Addr) × Nat) (fun (⟨i, Ao, co⟩ : Int × (Option Addr) × Nat) => [(0, .slice L l.length lc), (2, .slice none 0 0), (4, .int .i64 i), (3, .slice Ao ((fewU l i).length) co)]) (fun (⟨i, Ao, co⟩ : Int × (Option Addr) × Nat) (w_ : World) => (Keeps (fun _ => False) w w_) ∧ (OwAt cmdC 15 42 Ao co (fewU l i) w_) ∧ (∀ i, blk Ao = some i → w.heap.size ≤ i) ∧ (0 ≤ i) ∧ (i ≤ l.length) ∧ (i ≤ 6)) (fun (⟨i, Ao, co⟩ : Int × (Option Addr) × Nat) => (l.length - i).toNat) (0, none, 0) ⟨(by kernel_rfl), (by kernel_rfl), (by kernel_rfl), (by kernel_rfl), trivial⟩ ⟨K, OwAt.nil, (by simp [blk]), Int.le_refl 0, (by omega), (by decide)⟩ ?_
  rintro ⟨i, Ao, co⟩ w1 ⟨K, hb2, ol3, i0, i1, i6⟩
  have lm_ := fewU_len l i6
  refine WC.seq ?_
  refine WC.seq ?_
  refine WC.region ?_
  refine WL.op (d := 6) (.int .i64 i) (k := ?_)
  refine WL.op (d := 7) (.slice L l.length lc) (k := ?_)
  refine WL.op (d := 8) (.int .i64 (l.length : Int)) (k := ?_)
  refine WL.op (d := 9) (.bool (decide (i < (l.length : Int)))) (k := ?_)
  refine WL.op (d := 10) (.bool (decide (i < (l.length : Int)))) (k := ?_)
  refine bsplit (decide (i < (l.length : Int))) (fun h4 => ?_) (fun h4 => ?_)
  · have ph4 := of_decide_eq_true h4
    refine WL.rw (t := 10) (v := .bool true) (congrArg Value.bool h4) (k := ?_)
    refine WL.op (d := 11) (.int .i64 i) (k := ?_)
    refine WL.op (d := 12) (.bool (decide (i < 6))) (k := ?_)
    refine WL.op (d := 13) (.bool (decide (i < 6))) (k := ?_)
    refine WL.nil ?_
    refine WX.seqN ?_
    refine WC.cond (b := decide (i < 6)) (ht := fun h5 => ?_) (hf := fun h5 => ?_)
    · have ph5 := of_decide_eq_true h5
      refine WC.skip ?_
      refine WX.seqN ?_
      refine WC.seq ?_
      refine WC.block ?_
      refine WC.seq ?_
      refine WC.region ?_
      refine WL.op (d := 16) (.slice L l.length lc) (k := ?_)
      refine WL.op (d := 17) (.int .i64 i) (k := ?_)
      obtain ⟨b6, o7, r8, hr9, hA10, he11⟩ := SlAt.at hL (i := i) (by omega) (by omega)
      refine WL.rw (t := 16) (v := .slice (some ⟨b6, o7, none⟩) l.length lc) (congrArg (fun a => Value.slice a l.length lc) hA10) (k := ?_)
      obtain ⟨hs12, hc13, hl14⟩ := fts_mem hF hr9
      refine WL.idx (T := 25) (E := 42) (m := 15) (b := b6) (o := o7) (len := l.length) (cap := lc) (i := i) (kk := .i64) (d := 18) (by omega) (by omega) (k := ?_)
      refine WL.rw (t := 16) (v := .slice L l.length lc) (congrArg (fun a => Value.slice a l.length lc) (Eq.symm hA10)) (k := ?_)
      refine WL.load (v := GCmd.val r8) ((he11.adds K).ldW (T := 42)) (k := ?_)
      refine WL.new (d := 5) (T := 42) #[.int .i64 0, .int .i64 0, .int .i64 0, .int .i64 0, .int .i64 0, .int .i64 0, .int .i64 0, .bool false, .int .i64 0, .int .i64 0, .int .i64 0, .int .i64 0, .int .i64 0, .int .i64 0, .slice none 0 0] (k := fun b15 w16 g17 hb18 k19 => ?_)
      have z20 := Nat.le_trans K.size g17
      have n21 := OwAt.off_new hb2 g17
      replace hb2 := hb2.adds k19
      replace K := K.trans (k19.any _)
      refine WL.store (v := GCmd.val r8) (i := 0) (cs' := (Value.cells (GCmd.val r8))) hb18 (k := fun w22 hb23 k24 => ?_)
      replace hb2 := hb2.keeps k24 (fun i hi e => (n21) (e ▸ hi))
      replace K := K.trans' k24 (fun i hi e => absurd (e ▸ hi) (Nat.not_lt.2 z20))
      clear hb18
      refine WL.nil ?_
      refine WX.seqN ?_
      refine WC.seq ?_
      refine WC.seq ?_
      refine WC.region ?_
      refine WL.op (d := 20) (.pointer (some ⟨b15, 14, none⟩)) (k := ?_)
      refine WL.load (v := .slice r8.A r8.p.fs.length r8.cap) (ld1 (T := 40) (i := 14) hb23) (k := ?_)
      refine WL.op (d := 22) (.int .i64 (r8.p.fs.length : Int)) (k := ?_)
      refine WL.op (d := 23) (.bool (decide ((r8.p.fs.length : Int) > 66))) (k := ?_)
      refine WL.nil ?_
      refine WX.seqN ?_
      refine WC.cond (b := decide ((r8.p.fs.length : Int) > 66)) (ht := fun h25 => ?_) (hf := fun h25 => ?_)
      · have ph25 := of_decide_eq_true h25
        refine WC.region ?_
        refine WL.op (d := 24) (.pointer (some ⟨b15, 14, none⟩)) (k := ?_)
        refine WL.load (v := .slice r8.A r8.p.fs.length r8.cap) (ld1 (T := 40) (i := 14) hb23) (k := ?_)
        have hs26 := SlAt.cutT (b := 66) (c := r8.cap) hs12 (by omega) (by omega)
        refine WL.cut (d := 26) (vx := .slice r8.A r8.p.fs.length r8.cap) (lo' := none) (hi' := (some (.int .i64 66))) (mx' := none) (v := .slice r8.A ((List.take 66 r8.p.fs).length) r8.cap) (run_cutSl (a := 0) (b := 66) (c := r8.cap) (m := 2) (E := 89) (by kernel_rfl) (by kernel_rfl) (.inl ⟨rfl, rfl⟩) (.inr ⟨_, _, rfl, by omega⟩) (.inl ⟨rfl, rfl⟩) (by omega) (by omega) (cutA_zero _ _ _) (by simp <;> omega) (by omega)) (k := ?_)
        refine WL.op (d := 27) (.pointer (some ⟨b15, 14, none⟩)) (k := ?_)
        refine WL.store (v := .slice r8.A ((List.take 66 r8.p.fs).length) r8.cap) (i := 14) (cs' := #[.int .i64 r8.p.kind, .int .i64 r8.p.op.kind, .int .i64 r8.p.op.task.id, .int .i64 r8.p.op.task.c, .int .i64 r8.p.op.task.d, .int .i64 r8.p.op.task.t, .int .i64 r8.p.op.task.m, .bool r8.p.op.sv, .int .i64 r8.p.op.id, .int .i64 r8.p.op.c, .int .i64 r8.p.op.m, .int .i64 r8.p.id, .int .i64 r8.p.work, .int .i64 r8.p.n, .slice r8.A ((List.take 66 r8.p.fs).length) r8.cap]) hb23 (k := fun w27 hb28 k29 => ?_)
        replace hb2 := hb2.keeps k29 (fun i hi e => (n21) (e ▸ hi))
        replace K := K.trans' k29 (fun i hi e => absurd (e ▸ hi) (Nat.not_lt.2 z20))
        clear hb23
        refine WL.nil ?_
        refine WX.seqN ?_
        refine WC.region ?_
        refine WL.op (d := 28) (.slice Ao ((fewU l i).length) co) (k := ?_)
        refine WL.load (v := .agg #[.int .i64 r8.p.kind, .int .i64 r8.p.op.kind, .int .i64 r8.p.op.task.id, .int .i64 r8.p.op.task.c, .int .i64 r8.p.op.task.d, .int .i64 r8.p.op.task.t, .int .i64 r8.p.op.task.m, .bool r8.p.op.sv, .int .i64 r8.p.op.id, .int .i64 r8.p.op.c, .int .i64 r8.p.op.m, .int .i64 r8.p.id, .int .i64 r8.p.work, .int .i64 r8.p.n, .slice r8.A ((List.take 66 r8.p.fs).length) r8.cap]) (ldN (T := 42) (i := 0) (m := 15) (l := [.int .i64 r8.p.kind, .int .i64 r8.p.op.kind, .int .i64 r8.p.op.task.id, .int .i64 r8.p.op.task.c, .int .i64 r8.p.op.task.d, .int .i64 r8.p.op.task.t, .int .i64 r8.p.op.task.m, .bool r8.p.op.sv, .int .i64 r8.p.op.id, .int .i64 r8.p.op.c, .int .i64 r8.p.op.m, .int .i64 r8.p.id, .int .i64 r8.p.work, .int .i64 r8.p.n, .slice r8.A ((List.take 66 r8.p.fs).length) r8.cap]) hb28) (k := ?_)
        refine WL.newF (d := 30) (T := 42) #[.int .i64 r8.p.kind, .int .i64 r8.p.op.kind, .int .i64 r8.p.op.task.id, .int .i64 r8.p.op.task.c, .int .i64 r8.p.op.task.d, .int .i64 r8.p.op.task.t, .int .i64 r8.p.op.task.m, .bool r8.p.op.sv, .int .i64 r8.p.op.id, .int .i64 r8.p.op.c, .int .i64 r8.p.op.m, .int .i64 r8.p.id, .int .i64 r8.p.work, .int .i64 r8.p.n, .slice r8.A ((List.take 66 r8.p.fs).length) r8.cap] (fun b => .slice (some ⟨b, 0, none⟩) 1 1) (k := fun b30 w31 g32 hb33 k34 => ?_)
        have z35 := Nat.le_trans K.size g32
        have n36 := OwAt.off_new hb2 g32
        have n37 : b15 ≠ b30 := Nat.ne_of_lt (Nat.lt_of_lt_of_le (lt_of_heap hb28) g32)
        replace hb2 := hb2.adds k34
        replace hb28 := k34.heap hb28 id
        replace K := K.trans (k34.any _)
        refine WL.append (d := 31) (T := 25) (cl := cmdC) (xs := fewU l i) (ys := [(⟨⟨r8.p.kind, r8.p.op, r8.p.id, r8.p.work, r8.p.n, List.take 66 r8.p.fs⟩, r8.A, r8.cap⟩ : GCmd)]) (c := 1) ekCmd hb2 (SlAt.of_lit (ys := [(⟨⟨r8.p.kind, r8.p.op, r8.p.id, r8.p.work, r8.p.n, List.take 66 r8.p.fs⟩, r8.A, r8.cap⟩ : GCmd)]) ekCmd hb33 (by kernel_rfl)) (by simp; omega) (k := fun A38 c39 w40 ho41 k42 n43 => ?_)
        have ol44 := olink_step ol3 K n43
        have n45 := off_step n43 n21 (lt_of_heap hb28)
        replace hb28 := k42.heap hb28 n21
        replace K := K.trans' k42 (fun i hi e => absurd hi (Nat.not_lt.2 (ol3 i e)))
        clear hb2
        refine WL.op (d := 3) (.slice A38 ((fewU l i ++ [(⟨⟨r8.p.kind, r8.p.op, r8.p.id, r8.p.work, r8.p.n, List.take 66 r8.p.fs⟩, r8.A, r8.cap⟩ : GCmd)]).length) c39) (k := ?_)
        refine WL.nil ?_
        refine WX.blockN ?_
        refine WX.seqN ?_
        refine WC.region ?_
        refine WL.op (d := 14) (.int .i64 i) (k := ?_)
        refine WL.opE (d := 15) (.int .i64 (IntKind.i64.wrap (i + 1))) (v := .int .i64 (i + 1)) (congrArg (Value.int .i64) (IntWalk.i64_in _ (by omega))) (k := ?_)
        refine WL.op (d := 4) (.int .i64 (i + 1)) (k := ?_)
        refine WL.nil ?_
        have e46 : fewU l i ++ [(⟨⟨r8.p.kind, r8.p.op, r8.p.id, r8.p.work, r8.p.n, List.take 66 r8.p.fs⟩, r8.A, r8.cap⟩ : GCmd)] = fewU l (i + 1) := few_s1 i0 hr9 ph25
        rw [e46] at ho41
        refine WX.rw (t := 3) (v := .slice A38 ((fewU l (i + 1)).length) c39) (congrArg (fun l => Value.slice A38 (List.length l) c39) e46) (k := ?_)
        refine WX.round (i + 1, A38, c39) (by show (l.length - (i + 1)).toNat < (l.length - i).toNat; omega) ⟨(by kernel_rfl), (by kernel_rfl), (by kernel_rfl), (by kernel_rfl), trivial⟩ ⟨K, ho41, ol44, (by omega), (by omega), (by omega)⟩
      · have ph25 := of_decide_eq_false h25
        refine WC.skip ?_
        refine WX.seqN ?_
        refine WC.region ?_
        refine WL.op (d := 28) (.slice Ao ((fewU l i).length) co) (k := ?_)
        refine WL.load (v := GCmd.val r8) (ldN (T := 42) (i := 0) (m := 15) (l := (Value.cells (GCmd.val r8)).toList) hb23) (k := ?_)
        refine WL.newF (d := 30) (T := 42) (Value.cells (GCmd.val r8)) (fun b => .slice (some ⟨b, 0, none⟩) 1 1) (k := fun b47 w48 g49 hb50 k51 => ?_)
        have z52 := Nat.le_trans K.size g49
        have n53 := OwAt.off_new hb2 g49
        have n54 : b15 ≠ b47 := Nat.ne_of_lt (Nat.lt_of_lt_of_le (lt_of_heap hb23) g49)
        replace hb2 := hb2.adds k51
        replace hb23 := k51.heap hb23 id
        replace K := K.trans (k51.any _)
        refine WL.append (d := 31) (T := 25) (cl := cmdC) (xs := fewU l i) (ys := [r8]) (c := 1) ekCmd hb2 (SlAt.of_lit (ys := [r8]) ekCmd hb50 (by kernel_rfl)) (by simp; omega) (k := fun A55 c56 w57 ho58 k59 n60 => ?_)
        have ol61 := olink_step ol3 K n60
        have n62 := off_step n60 n21 (lt_of_heap hb23)
        replace hb23 := k59.heap hb23 n21
        replace K := K.trans' k59 (fun i hi e => absurd hi (Nat.not_lt.2 (ol3 i e)))
        clear hb2
        refine WL.op (d := 3) (.slice A55 ((fewU l i ++ [r8]).length) c56) (k := ?_)
        refine WL.nil ?_
        refine WX.blockN ?_
        refine WX.seqN ?_
        refine WC.region ?_
        refine WL.op (d := 14) (.int .i64 i) (k := ?_)
        refine WL.opE (d := 15) (.int .i64 (IntKind.i64.wrap (i + 1))) (v := .int .i64 (i + 1)) (congrArg (Value.int .i64) (IntWalk.i64_in _ (by omega))) (k := ?_)
        refine WL.op (d := 4) (.int .i64 (i + 1)) (k := ?_)
        refine WL.nil ?_
        have e63 : fewU l i ++ [r8] = fewU l (i + 1) := few_s2 i0 hr9 ph25
        rw [e63] at ho58
        refine WX.rw (t := 3) (v := .slice A55 ((fewU l (i + 1)).length) c56) (congrArg (fun l => Value.slice A55 (List.length l) c56) e63) (k := ?_)
        refine WX.round (i + 1, A55, c56) (by show (l.length - (i + 1)).toNat < (l.length - i).toNat; omega) ⟨(by kernel_rfl), (by kernel_rfl), (by kernel_rfl), (by kernel_rfl), trivial⟩ ⟨K, ho58, ol61, (by omega), (by omega), (by omega)⟩
    · have ph5 := of_decide_eq_false h5
      refine WC.exit ?_
      refine WX.seqE ?_
      refine WX.seqE ?_
      refine WX.blockE ?_
      refine WX.seqN ?_
      refine WC.seq ?_
      refine WC.region ?_
      refine WL.op (d := 32) (.slice Ao ((fewU l i).length) co) (k := ?_)
      refine WL.op (d := 2) (.slice Ao ((fewU l i).length) co) (k := ?_)
      refine WL.nil ?_
      refine WX.seqN ?_
      refine WC.ret ?_
      refine WX.ret (rs := [.tmp 2]) [.slice Ao ((fewU l i).length) co] (.slice Ao ((fewU l i).length) co) ⟨(by kernel_rfl), trivial⟩ (k := ?_)
      have e_ : fewU l i = fewL l := few_end i0 i6 (by omega)
      rw [e_] at hb2 ⊢
      exact ⟨_, _, rfl, hb2, K, ol3⟩
  · have ph4 := of_decide_eq_false h4
    refine WL.rw (t := 10) (v := .bool false) (congrArg Value.bool h4) (k := ?_)
    refine WL.skip (d := 11) (k := ?_)
    refine WL.skip (d := 12) (k := ?_)
    refine WL.op (d := 13) (.bool false) (k := ?_)
    refine WL.nil ?_
    refine WX.seqN ?_
    refine WC.condF (k := ?_)
    refine WC.exit ?_
    refine WX.seqE ?_
    refine WX.seqE ?_
    refine WX.blockE ?_
    refine WX.seqN ?_
    refine WC.seq ?_
    refine WC.region ?_
    refine WL.op (d := 32) (.slice Ao ((fewU l i).length) co) (k := ?_)
    refine WL.op (d := 2) (.slice Ao ((fewU l i).length) co) (k := ?_)
    refine WL.nil ?_
    refine WX.seqN ?_
    refine WC.ret ?_
    refine WX.ret (rs := [.tmp 2]) [.slice Ao ((fewU l i).length) co] (.slice Ao ((fewU l i).length) co) ⟨(by kernel_rfl), trivial⟩ (k := ?_)
    have e_ : fewU l i = fewL l := few_end i0 i6 (by omega)
    rw [e_] at hb2 ⊢
    exact ⟨_, _, rfl, hb2, K, ol3⟩
set_option maxRecDepth 100000 in
set_option maxHeartbeats 4000000 in
theorem u23SameAll_c {A : Option Addr} {cp : Nat} {xs : List GCmd} {w : World} (hA : SlAt cmdC 15 42 A xs w) (hF : Fts 1000000000 xs w) (hn : xs.length ≤ 1000000000) {B : Option Addr} {cq : Nat} {ys : List GCmd} (hB : SlAt cmdC 15 42 B ys w) (hG : Fts 1000000000 ys w) (hm : ys.length ≤ 1000000000) : Calls Tryd.prog 13 #[.slice A xs.length cp, .slice B ys.length cq] w fun e w' => e = .returned (.bool (decide (xs.map GCmd.p = ys.map GCmd.p))) ∧ Adds w w' := by
  have K : Keeps (fun _ => False) w w := Keeps.refl _ w
  refine Calls.start Tryd.func13 rfl (by kernel_rfl) ?_
  refine WC.seq ?_
  refine WC.region ?_
  refine WL.op (d := 4) (.bool false) (k := ?_)
  refine WL.nil ?_
  refine WX.seqN ?_
  refine WC.seq ?_
  refine WC.seq ?_
  refine WC.region ?_
  refine WL.op (d := 7) (.slice A xs.length cp) (k := ?_)
  refine WL.op (d := 8) (.int .i64 (xs.length : Int)) (k := ?_)
  refine WL.op (d := 9) (.slice B ys.length cq) (k := ?_)
  refine WL.op (d := 10) (.int .i64 (ys.length : Int)) (k := ?_)
  refine WL.op (d := 11) (.bool ((xs.length : Int) != (ys.length : Int))) (k := ?_)
  refine WL.nil ?_
  refine WX.seqN ?_
  refine WC.cond (b := (xs.length : Int) != (ys.length : Int)) (ht := fun h1 => ?_) (hf := fun h1 => ?_)
  · have ph1 := bne_iff_ne.1 h1
    refine WC.seq ?_
    refine WC.region ?_
    refine WL.op (d := 4) (.bool false) (k := ?_)
    refine WL.nil ?_
    refine WX.seqN ?_
    refine WC.ret ?_
    refine WX.seqR ?_
    refine WX.ret (rs := [.tmp 4]) [.bool false] (.bool false) ⟨(by kernel_rfl), trivial⟩ (k := ?_)
    exact ⟨ret_bool (mapU_len (by omega)), K⟩
  · have ph1 := of_bne_false h1
    refine WC.skip ?_
    refine WX.seqN ?_
    refine WC.seq ?_
    refine WC.seq ?_
    refine WC.region ?_
    refine WL.op (d := 5) (.int .i64 0) (k := ?_)
    refine WL.nil ?_
    refine WX.seqN ?_
    refine WC.block ?_
    refine WC.loop (ι := Int) (fun (i : Int) => [(0, .slice A xs.length cp), (1, .slice B ys.length cq), (7, .slice A xs.length cp), (8, .int .i64 (xs.length : Int)), (9, .slice B ys.length cq), (10, .int .i64 (ys.length : Int)), (11, .bool ((xs.length : Int) != (ys.length : Int))), (5, .int .i64 i)]) (fun (i : Int) (w_ : World) => (Keeps (fun _ => False) w w_) ∧ (0 ≤ i) ∧ (i ≤ xs.length) ∧ (eqU (xs.map GCmd.p) (ys.map GCmd.p) i)) (fun (i : Int) => (xs.length - i).toNat) 0 ⟨(by kernel_rfl), (by kernel_rfl), (by kernel_rfl), (by kernel_rfl), (by kernel_rfl), (by kernel_rfl), (by kernel_rfl), (by kernel_rfl), trivial⟩ ⟨K, Int.le_refl 0, (by omega), eqU_zero _ _⟩ ?_
    rintro i w2 ⟨K, i0, i1, iu⟩
    refine WC.seq ?_
    refine WC.seq ?_
    refine WC.region ?_
    refine WL.op (d := 12) (.int .i64 i) (k := ?_)
    refine WL.op (d := 13) (.slice A xs.length cp) (k := ?_)
    refine WL.op (d := 14) (.int .i64 (xs.length : Int)) (k := ?_)
    refine WL.op (d := 15) (.bool (decide (i < (xs.length : Int)))) (k := ?_)
    refine WL.nil ?_
    refine WX.seqN ?_
    refine WC.cond (b := decide (i < (xs.length : Int))) (ht := fun h3 => ?_) (hf := fun h3 => ?_)
    · have ph3 := of_decide_eq_true h3
      refine WC.skip ?_
      refine WX.seqN ?_
      refine WC.seq ?_
      refine WC.block ?_
      refine WC.seq ?_
      refine WC.quiet (k := ?_)
      refine WQ.op (d := 18) (.slice A xs.length cp) (k := ?_)
      refine WQ.op (d := 19) (.int .i64 i) (k := ?_)
      obtain ⟨b4, o5, r6, hr7, hA8, he9⟩ := SlAt.at hA (i := i) (by omega) (by omega)
      refine WQ.rw (t := 18) (v := .slice (some ⟨b4, o5, none⟩) xs.length cp) (congrArg (fun a => Value.slice a xs.length cp) hA8) (k := ?_)
      obtain ⟨hs10, hc11, hl12⟩ := fts_mem hF hr7
      refine WQ.idx (T := 25) (E := 42) (m := 15) (b := b4) (o := o5) (len := xs.length) (cap := cp) (i := i) (kk := .i64) (d := 20) (by omega) (by omega) (k := ?_)
      refine WQ.rw (t := 18) (v := .slice A xs.length cp) (congrArg (fun a => Value.slice a xs.length cp) (Eq.symm hA8)) (k := ?_)
      refine WQ.load (v := GCmd.val r6) (fun w_ k_ => ((he9.adds K).adds k_).ldW (T := 42)) (k := ?_)
      refine WQ.op (d := 22) (.slice B ys.length cq) (k := ?_)
      refine WQ.op (d := 23) (.int .i64 i) (k := ?_)
      obtain ⟨b13, o14, r15, hr16, hA17, he18⟩ := SlAt.at hB (i := i) (by omega) (by omega)
      refine WQ.rw (t := 22) (v := .slice (some ⟨b13, o14, none⟩) ys.length cq) (congrArg (fun a => Value.slice a ys.length cq) hA17) (k := ?_)
      obtain ⟨hs19, hc20, hl21⟩ := fts_mem hG hr16
      refine WQ.idx (T := 25) (E := 42) (m := 15) (b := b13) (o := o14) (len := ys.length) (cap := cq) (i := i) (kk := .i64) (d := 24) (by omega) (by omega) (k := ?_)
      refine WQ.rw (t := 22) (v := .slice B ys.length cq) (congrArg (fun a => Value.slice a ys.length cq) (Eq.symm hA17)) (k := ?_)
      refine WQ.load (v := GCmd.val r15) (fun w_ k_ => ((he18.adds K).adds k_).ldW (T := 42)) (k := ?_)
      refine WQ.callG (d := 26) (f := 30) (args := #[GCmd.val r6, GCmd.val r15]) (v := .bool (decide (r6.p = r15.p))) (fun w_ k_ => u23Same_c (x := r6) (y := r15) ((hs10.adds K).adds k_) ((hs19.adds K).adds k_) (by omega) (by omega)) addsR (k := ?_)
      refine WQ.op (d := 6) (.bool (decide (r6.p = r15.p))) (k := ?_)
      refine WQ.nilX (fun w22 k23 => ?_)
      replace K := K.trans (k23.any _)
      refine WX.seqN ?_
      refine WC.seq ?_
      refine WC.region ?_
      refine WL.op (d := 27) (.bool (decide (r6.p = r15.p))) (k := ?_)
      refine WL.op (d := 28) (.bool (!(decide (r6.p = r15.p)))) (k := ?_)
      refine WL.nil ?_
      refine WX.seqN ?_
      refine WC.cond (b := !(decide (r6.p = r15.p))) (ht := fun h24 => ?_) (hf := fun h24 => ?_)
      · have h25 : (decide (r6.p = r15.p)) = false := Bool.not_inj (y := false) h24
        have ph25 := of_decide_eq_false h25
        refine WC.seq ?_
        refine WC.region ?_
        refine WL.op (d := 4) (.bool false) (k := ?_)
        refine WL.nil ?_
        refine WX.seqN ?_
        refine WC.ret ?_
        refine WX.blockR ?_
        refine WX.seqR ?_
        refine WX.seqR ?_
        refine WX.blockR ?_
        refine WX.seqR ?_
        refine WX.ret (rs := [.tmp 4]) [.bool false] (.bool false) ⟨(by kernel_rfl), trivial⟩ (k := ?_)
        exact ⟨ret_bool (eqU_bad (map_get hr7) (map_get hr16) ph25), K⟩
      · have h26 : (decide (r6.p = r15.p)) = true := Bool.not_inj (y := true) h24
        have ph26 := of_decide_eq_true h26
        refine WC.skip ?_
        refine WX.blockN ?_
        refine WX.seqN ?_
        refine WC.region ?_
        refine WL.op (d := 16) (.int .i64 i) (k := ?_)
        refine WL.opE (d := 17) (.int .i64 (IntKind.i64.wrap (i + 1))) (v := .int .i64 (i + 1)) (congrArg (Value.int .i64) (IntWalk.i64_in _ (by omega))) (k := ?_)
        refine WL.op (d := 5) (.int .i64 (i + 1)) (k := ?_)
        refine WL.nil ?_
        refine WX.round (i + 1) (by show (xs.length - (i + 1)).toNat < (xs.length - i).toNat; omega) ⟨(by kernel_rfl), (by kernel_rfl), (by kernel_rfl), (by kernel_rfl), (by kernel_rfl), (by kernel_rfl), (by kernel_rfl), (by kernel_rfl), trivial⟩ ⟨K, (by omega), (by omega), (eqU_succ i0 iu (map_get hr7) (map_get hr16) ph26)⟩
    · have ph3 := of_decide_eq_false h3
      refine WC.exit ?_
      refine WX.seqE ?_
      refine WX.seqE ?_
      refine WX.blockE ?_
      refine WX.seqN ?_
      refine WC.seq ?_
      refine WC.region ?_
      refine WL.op (d := 4) (.bool true) (k := ?_)
      refine WL.nil ?_
      refine WX.seqN ?_
      refine WC.ret ?_
      refine WX.ret (rs := [.tmp 4]) [.bool true] (.bool true) ⟨(by kernel_rfl), trivial⟩ (k := ?_)
      exact ⟨ret_bool (mapU_end (i := i) (by omega) (by omega) iu), K⟩
set_option maxRecDepth 100000 in
set_option maxHeartbeats 4000000 in
theorem lnText_c {A : Option Addr} {cp : Nat} {xs : List GCmd} {w : World} (hG : GB w) (hA : SlAt cmdC 15 42 A xs w) (hF : Fts 1000000000 xs w) (hn : xs.length ≤ 1000) : Calls Tryd.prog 12 #[.slice A xs.length cp] w fun e w' => e = .returned (.string ⟨(textW (xs.map GCmd.p)).toArray⟩) ∧ Adds w w' := by
  have K : Keeps (fun _ => False) w w := Keeps.refl _ w
  refine Calls.start Tryd.func12 rfl (by kernel_rfl) ?_
  refine WC.seq ?_
  refine WC.region ?_
  refine WL.op (d := 2) (.string ⟨#[]⟩) (k := ?_)
  refine WL.nil ?_
  refine WX.seqN ?_
  refine WC.seq ?_
  refine WC.region ?_
  refine WL.new (d := 3) (T := 70) #[.pointer none, .slice none 0 0] (k := fun b1 w2 g3 hb4 k5 => ?_)
  have z6 := Nat.le_trans K.size g3
  replace K := K.trans (k5.any _)
  have hw7 := BuR.newW hb4
  have lk8 : WLink w none none := .inl rfl
  clear hb4
  refine WL.nil ?_
  refine WX.seqN ?_
  refine WC.seq ?_
  refine WC.seq ?_
  refine WC.region ?_
  refine WL.op (d := 7) (.slice A xs.length cp) (k := ?_)
  refine WL.op (d := 8) (.int .i64 (xs.length : Int)) (k := ?_)
  refine WL.op (d := 9) (.int .i64 0) (k := ?_)
  refine WL.nil ?_
  refine WX.seqN ?_
  refine WC.block ?_
  rw [show [] = txU xs 0 from rfl] at hw7
  refine WC.loop (ι := Int × (Option Nat)) (fun (⟨i, ro⟩ : Int × (Option Nat)) => [(0, .slice A xs.length cp), (3, .pointer (some ⟨b1, 0, none⟩)), (7, .slice A xs.length cp), (8, .int .i64 (xs.length : Int)), (9, .int .i64 i)]) (fun (⟨i, ro⟩ : Int × (Option Nat)) (w_ : World) => (Keeps (fun _ => False) w w_) ∧ (BuR 70 0 b1 ro (txU xs i) w_) ∧ (WLink w none ro) ∧ (0 ≤ i) ∧ (i ≤ xs.length) ∧ (upL xs i)) (fun (⟨i, ro⟩ : Int × (Option Nat)) => (xs.length - i).toNat) (0, none) ⟨(by kernel_rfl), (by kernel_rfl), (by kernel_rfl), (by kernel_rfl), (by kernel_rfl), trivial⟩ ⟨K, hw7, lk8, Int.le_refl 0, (by omega), (upL_zero xs)⟩ ?_
  rintro ⟨i, ro⟩ w9 ⟨K, hb10, lk11, i0, i1, iu⟩
  have lu_ := txU_len (xs := xs) i (by omega)
  refine WC.seq ?_
  refine WC.region ?_
  refine WL.op (d := 10) (.bool (decide (i < (xs.length : Int)))) (k := ?_)
  refine WL.nil ?_
  refine WX.seqN ?_
  refine WC.seq ?_
  refine WC.cond (b := decide (i < (xs.length : Int))) (ht := fun h12 => ?_) (hf := fun h12 => ?_)
  · have ph12 := of_decide_eq_true h12
    refine WC.skip ?_
    refine WX.seqN ?_
    refine WC.seq ?_
    refine WC.block ?_
    refine WC.seq ?_
    refine WC.region ?_
    obtain ⟨b13, o14, r15, hr16, hA17, he18⟩ := SlAt.at hA (i := i) (by omega) (by omega)
    refine WL.rw (t := 7) (v := .slice (some ⟨b13, o14, none⟩) xs.length cp) (congrArg (fun a => Value.slice a xs.length cp) hA17) (k := ?_)
    obtain ⟨hs19, hc20, hl21⟩ := fts_mem hF hr16
    refine WL.idx (T := 25) (E := 42) (m := 15) (b := b13) (o := o14) (len := xs.length) (cap := cp) (i := i) (kk := .i64) (d := 11) (by omega) (by omega) (k := ?_)
    refine WL.rw (t := 7) (v := .slice A xs.length cp) (congrArg (fun a => Value.slice a xs.length cp) (Eq.symm hA17)) (k := ?_)
    refine WL.load (v := GCmd.val r15) ((he18.adds K).ldW (T := 42)) (k := ?_)
    refine WL.new (d := 5) (T := 42) #[.int .i64 0, .int .i64 0, .int .i64 0, .int .i64 0, .int .i64 0, .int .i64 0, .int .i64 0, .bool false, .int .i64 0, .int .i64 0, .int .i64 0, .int .i64 0, .int .i64 0, .int .i64 0, .slice none 0 0] (k := fun b22 w23 g24 hb25 k26 => ?_)
    have z27 := Nat.le_trans K.size g24
    have n28 : b1 ≠ b22 := Nat.ne_of_lt (Nat.lt_of_lt_of_le hb10.ltb g24)
    replace hb10 := hb10.movA k26
    replace K := K.trans (k26.any _)
    refine WL.store (v := GCmd.val r15) (i := 0) (cs' := (Value.cells (GCmd.val r15))) hb25 (k := fun w29 hb30 k31 => ?_)
    replace hb10 := hb10.mov1 k31 n28 (hb10.offT hb25 (by decide))
    replace K := K.trans' k31 (fun i hi e => absurd (e ▸ hi) (Nat.not_lt.2 z27))
    clear hb25
    refine WL.nil ?_
    refine WX.seqN ?_
    refine WC.seq ?_
    refine WC.region ?_
    refine WL.load (v := GCmd.val r15) (ldN (T := 42) (i := 0) (m := 15) (l := (Value.cells (GCmd.val r15)).toList) hb30) (k := ?_)
    refine WL.callG (d := 14) (f := 11) (args := #[GCmd.val r15]) (lnLine_c (c := r15) (hG.keeps K (fun _ _ x => x)) (hs19.adds K) (by first | omega | simp)) (k := fun e_ w33 h_ => ⟨.string ⟨(lineW r15.p).toArray⟩, h_.1, ?_⟩)
    have k34 := h_.2; clear h_
    replace hb10 := hb10.movA k34
    replace hb30 := k34.heap hb30 id
    replace K := K.trans (k34.any _)
    have ll32 := lineW_le r15.p
    refine WL.op (d := 6) (.string ⟨(lineW r15.p).toArray⟩) (k := ?_)
    refine WL.nil ?_
    refine WX.seqN ?_
    refine WC.seq ?_
    refine WC.seq ?_
    refine WC.region ?_
    refine WL.op (d := 15) (.string ⟨(lineW r15.p).toArray⟩) (k := ?_)
    refine WL.opE (d := 16) (.bool (ByteArray.toList ⟨(lineW r15.p).toArray⟩ == ByteArray.toList ⟨([]).toArray⟩)) (v := .bool (decide (lineW r15.p = []))) (str_eql _ _) (k := ?_)
    refine WL.nil ?_
    refine WX.seqN ?_
    refine WC.cond (b := decide (lineW r15.p = [])) (ht := fun h35 => ?_) (hf := fun h35 => ?_)
    · have ph35 := of_decide_eq_true h35
      refine WC.seq ?_
      refine WC.region ?_
      refine WL.op (d := 2) (.string ⟨#[]⟩) (k := ?_)
      refine WL.nil ?_
      refine WX.seqN ?_
      refine WC.ret ?_
      refine WX.seqR ?_
      refine WX.blockR ?_
      refine WX.seqR ?_
      refine WX.seqR ?_
      refine WX.blockR ?_
      refine WX.seqR ?_
      refine WX.ret (rs := [.tmp 2]) [.string ⟨#[]⟩] (.string ⟨#[]⟩) ⟨(by kernel_rfl), trivial⟩ (k := ?_)
      exact ⟨by rw [textW_no hr16 ph35], K⟩
    · have ph35 := of_decide_eq_false h35
      refine WC.skip ?_
      refine WX.seqN ?_
      refine WC.region ?_
      refine WL.op (d := 17) (.string ⟨(lineW r15.p).toArray⟩) (k := ?_)
      refine WL.bin (d := 18) (v := .string ⟨((lineW r15.p) ++ [10]).toArray⟩) (cat_run (by (try simp only [List.length_append, List.length_cons, List.length_nil]); omega)) (k := ?_)
      obtain ⟨Y18, hY18, lY18⟩ : ∃ Y, (lineW r15.p) ++ [10] = Y ∧ Y.length ≤ 17000 := ⟨_, rfl, by simp only [List.length_append, List.length_cons, List.length_nil]; omega⟩
      refine WL.rw (t := 18) (v := .string ⟨(Y18).toArray⟩) (congrArg (fun l : List UInt8 => Value.string ⟨l.toArray⟩) hY18) (k := ?_)
      refine WL.callG (d := 19) (f := 28) (args := #[.pointer (some ⟨b1, 0, none⟩), .string ⟨(Y18).toArray⟩]) (bWriteString_s _ _ _ Y18 _ (by (try simp only [List.length_append, List.length_cons, List.length_nil]); omega) hb10 (by (try simp only [List.length_append, List.length_cons, List.length_nil]); omega)) (k := fun e_ w36 h_ => ?_)
      obtain ⟨rfl, r37, hw38, n39, k40⟩ := h_
      refine ⟨_, rfl, ?_⟩
      have lk41 := lk11.step K n39
      replace hb30 := k40.heap hb30 (not_or.2 ⟨Ne.symm n28, hb10.offT hb30 (by decide)⟩)
      replace K := K.trans' k40 (WLink.own lk11 z6 _)
      clear hb10 n39 lk11
      refine WL.nil ?_
      refine WX.blockN ?_
      refine WX.seqN ?_
      refine WC.region ?_
      refine WL.opE (d := 20) (.int .i64 (IntKind.i64.wrap (i + 1))) (v := .int .i64 (i + 1)) (congrArg (Value.int .i64) (IntWalk.i64_in _ (by omega))) (k := ?_)
      refine WL.op (d := 9) (.int .i64 (i + 1)) (k := ?_)
      refine WL.nil ?_
      have e42 : txU xs i ++ Y18 = txU xs (i + 1) := hY18 ▸ txU_succ i0 hr16
      rw [e42] at hw38
      refine WX.round (i + 1, r37) (by show (xs.length - (i + 1)).toNat < (xs.length - i).toNat; omega) ⟨(by kernel_rfl), (by kernel_rfl), (by kernel_rfl), (by kernel_rfl), (by kernel_rfl), trivial⟩ ⟨K, hw38, lk41, (by omega), (by omega), (upL_succ i0 iu hr16 ph35)⟩
  · have ph12 := of_decide_eq_false h12
    refine WC.exit ?_
    refine WX.seqE ?_
    refine WX.seqE ?_
    refine WX.blockE ?_
    refine WX.seqN ?_
    refine WC.seq ?_
    refine WC.region ?_
    refine WL.callG (d := 21) (f := 29) (args := #[.pointer (some ⟨b1, 0, none⟩)]) (bString_t _ _ _ _ hb10 (by (try simp only [List.length_append, List.length_cons, List.length_nil]); omega)) (k := fun e_ w43 h_ => ?_)
    obtain ⟨rfl, r44, hw45, n46, k47⟩ := h_
    refine ⟨_, rfl, ?_⟩
    have lk48 := lk11.step K n46
    replace K := K.trans' k47 (WLink.own lk11 z6 _)
    clear hb10 n46 lk11
    refine WL.op (d := 2) (.string ⟨(txU xs i).toArray⟩) (k := ?_)
    refine WL.nil ?_
    refine WX.seqN ?_
    refine WC.ret ?_
    refine WX.ret (rs := [.tmp 2]) [.string ⟨(txU xs i).toArray⟩] (.string ⟨(txU xs i).toArray⟩) ⟨(by kernel_rfl), trivial⟩ (k := ?_)
    exact ⟨by rw [txU_end (i := i) (by omega) iu], K⟩
end Go.Proofs.YtoeinhlmkpgjhaaDoor
namespace Go.Proofs.YtoeinhlmkpgjhaaDoor
open Go.RowKit
set_option linter.unusedVariables false
set_option linter.unusedSimpArgs false
set_option maxRecDepth 100000 in
set_option maxHeartbeats 4000000 in
theorem linesBack_any {L : Option Addr} {lc : Nat} {l : List GCmd} {w : World} (hL : SlAt cmdC 15 42 L l w) (hF : Fts 9223372036854775807 l w) (hl : l.length ≤ 9223372036854775807) (hG : GB w) : Calls Tryd.prog 5 #[.slice L l.length lc] w fun e w' => e = .returned (.bool true) ∧ Adds w w' := by
  have K : Keeps (fun _ => False) w w := Keeps.refl _ w
  have hFf := fts_few hF
  have hFg := fts_lg hF
  refine Calls.start Tryd.func5 rfl (by kernel_rfl) ?_
  refine WC.seq ?_
  refine WC.region ?_
  refine WL.op (d := 2) (.bool false) (k := ?_)
  refine WL.nil ?_
  refine WX.seqN ?_
  refine WC.seq ?_
  refine WC.region ?_
  refine WL.callG (d := 15) (f := 6) (args := #[]) (l25awake_c (hG.keeps K (fun _ _ x => x))) (k := fun e_ w1 h_ => ⟨.bool true, h_.1, ?_⟩)
  have k2 := h_.2; clear h_
  replace K := K.trans (k2.any _)
  refine WL.op (d := 3) (.bool true) (k := ?_)
  refine WL.nil ?_
  refine WX.seqN ?_
  refine WC.seq ?_
  refine WC.region ?_
  refine WL.op (d := 4) (.slice none 0 0) (k := ?_)
  refine WL.nil ?_
  refine WX.seqN ?_
  refine WC.seq ?_
  refine WC.region ?_
  refine WL.op (d := 5) (.string ⟨#[32, 10]⟩) (k := ?_)
  refine WL.nil ?_
  refine WX.seqN ?_
  refine WC.seq ?_
  refine WC.region ?_
  refine WL.op (d := 16) (.slice L l.length lc) (k := ?_)
  refine WL.callG (d := 17) (f := 10) (args := #[.slice L l.length lc]) (l25few_c (lc := lc) (hL.adds K) (hF.adds K) hl) (k := fun e_ w3 h_ => ?_)
  obtain ⟨A4, c5, rfl, ho6, k7, ol8⟩ := h_
  refine ⟨_, rfl, ?_⟩
  have ol9 := fun i h => Nat.le_trans K.size (ol8 i h)
  replace K := K.trans (k7.any _)
  clear ol8
  have fl10 := fewL_len l
  refine WL.op (d := 6) (.slice A4 ((fewL l).length) c5) (k := ?_)
  refine WL.nil ?_
  refine WX.seqN ?_
  refine WC.seq ?_
  refine WC.seq ?_
  have K0 := K
  replace hL := hL.adds K
  have hs11 := ho6.sl ekCmd
  replace hF := hF.adds K
  replace hFf := hFf.adds K
  replace hFg := hFg.adds K
  replace hG := hG.adds K
  replace K := Keeps.refl (fun _ => False) w3
  refine WC.region ?_
  refine WL.op (d := 7) (.int .i64 0) (k := ?_)
  refine WL.nil ?_
  refine WX.seqN ?_
  refine WC.block ?_
  refine WC.rw (t := 5) (v := .string ⟨(bkS l 0).toArray⟩) (congrArg (fun l : List UInt8 => Value.string ⟨l.toArray⟩) (bkS_zero l).symm) (k := ?_)
  refine WC.loop (ι := Int × (Option Addr) × Nat) (fun (⟨i, Ao, co⟩ : Int × (Option Addr) × Nat) => [(0, .slice L l.length lc), (2, .bool false), (15, .bool true), (3, .bool true), (16, .slice L l.length lc), (17, .slice A4 ((fewL l).length) c5), (6, .slice A4 ((fewL l).length) c5), (7, .int .i64 i), (5, .string ⟨(bkS l i).toArray⟩), (4, .slice Ao ((lgU l i).length) co)]) (fun (⟨i, Ao, co⟩ : Int × (Option Addr) × Nat) (w_ : World) => (Keeps (fun _ => False) w3 w_) ∧ (OwAt cmdC 15 42 Ao co (lgU l i) w_) ∧ (∀ i, blk Ao = some i → w3.heap.size ≤ i) ∧ (0 ≤ i) ∧ (i ≤ (fewL l).length)) (fun (⟨i, Ao, co⟩ : Int × (Option Addr) × Nat) => ((fewL l).length - i).toNat) (0, none, 0) ⟨(by kernel_rfl), (by kernel_rfl), (by kernel_rfl), (by kernel_rfl), (by kernel_rfl), (by kernel_rfl), (by kernel_rfl), (by kernel_rfl), (by kernel_rfl), (by kernel_rfl), trivial⟩ ⟨K, OwAt.nil, (by simp [blk]), Int.le_refl 0, (by omega)⟩ ?_
  rintro ⟨i, Ao, co⟩ w12 ⟨K, hb13, ol14, i0, i1⟩
  have lm_ := lgU_len l i
  have lb_ := bkS_len l i
  refine WC.seq ?_
  refine WC.seq ?_
  refine WC.region ?_
  refine WL.op (d := 18) (.int .i64 i) (k := ?_)
  refine WL.op (d := 19) (.slice A4 ((fewL l).length) c5) (k := ?_)
  refine WL.op (d := 20) (.int .i64 ((fewL l).length : Int)) (k := ?_)
  refine WL.op (d := 21) (.bool (decide (i < ((fewL l).length : Int)))) (k := ?_)
  refine WL.nil ?_
  refine WX.seqN ?_
  refine WC.cond (b := decide (i < ((fewL l).length : Int))) (ht := fun h15 => ?_) (hf := fun h15 => ?_)
  · have ph15 := of_decide_eq_true h15
    refine WC.skip ?_
    refine WX.seqN ?_
    refine WC.seq ?_
    refine WC.block ?_
    refine WC.seq ?_
    refine WC.region ?_
    refine WL.op (d := 24) (.slice A4 ((fewL l).length) c5) (k := ?_)
    refine WL.op (d := 25) (.int .i64 i) (k := ?_)
    obtain ⟨b16, o17, r18, hr19, hA20, he21⟩ := SlAt.at hs11 (i := i) (by omega) (by omega)
    refine WL.rw (t := 24) (v := .slice (some ⟨b16, o17, none⟩) ((fewL l).length) c5) (congrArg (fun a => Value.slice a ((fewL l).length) c5) hA20) (k := ?_)
    obtain ⟨hs22, hc23, hl24⟩ := fts_mem hFf hr19
    refine WL.idx (T := 25) (E := 42) (m := 15) (b := b16) (o := o17) (len := (fewL l).length) (cap := c5) (i := i) (kk := .i64) (d := 26) (by omega) (by omega) (k := ?_)
    refine WL.rw (t := 24) (v := .slice A4 ((fewL l).length) c5) (congrArg (fun a => Value.slice a ((fewL l).length) c5) (Eq.symm hA20)) (k := ?_)
    refine WL.load (v := GCmd.val r18) ((he21.adds K).ldW (T := 42)) (k := ?_)
    refine WL.callG (d := 28) (f := 11) (args := #[GCmd.val r18]) (lnLine_c (c := r18) (hG.keeps K (fun _ _ x => x)) (hs22.adds K) (by first | omega | simp)) (k := fun e_ w26 h_ => ⟨.string ⟨(lineW r18.p).toArray⟩, h_.1, ?_⟩)
    have k27 := h_.2; clear h_
    replace hb13 := hb13.adds k27
    replace K := K.trans (k27.any _)
    have ll25 := lineW_le r18.p
    refine WL.op (d := 8) (.string ⟨(lineW r18.p).toArray⟩) (k := ?_)
    refine WL.nil ?_
    refine WX.seqN ?_
    refine WC.seq ?_
    refine WC.region ?_
    refine WL.op (d := 29) (.string ⟨(lineW r18.p).toArray⟩) (k := ?_)
    refine WL.opE (d := 30) (.bool !(ByteArray.toList ⟨(lineW r18.p).toArray⟩ == ByteArray.toList ⟨([]).toArray⟩)) (v := .bool (!(decide (lineW r18.p = [])))) (str_neq _ _) (k := ?_)
    refine WL.nil ?_
    refine WX.seqN ?_
    refine WC.cond (b := !(decide (lineW r18.p = []))) (ht := fun h28 => ?_) (hf := fun h28 => ?_)
    · have h29 : (decide (lineW r18.p = [])) = false := Bool.not_inj (y := false) h28
      have ph29 := of_decide_eq_false h29
      refine WC.seq ?_
      refine WC.region ?_
      refine WL.op (d := 31) (.slice Ao ((lgU l i).length) co) (k := ?_)
      refine WL.op (d := 32) (.slice A4 ((fewL l).length) c5) (k := ?_)
      refine WL.op (d := 33) (.int .i64 i) (k := ?_)
      obtain ⟨b30, o31, r32, hr33, hA34, he35⟩ := SlAt.at hs11 (i := i) (by omega) (by omega)
      refine WL.rw (t := 32) (v := .slice (some ⟨b30, o31, none⟩) ((fewL l).length) c5) (congrArg (fun a => Value.slice a ((fewL l).length) c5) hA34) (k := ?_)
      obtain rfl : r18 = r32 := Option.some.inj (hr19.symm.trans hr33)
      obtain ⟨hs36, hc37, hl38⟩ := fts_mem hFf hr19
      refine WL.idx (T := 25) (E := 42) (m := 15) (b := b30) (o := o31) (len := (fewL l).length) (cap := c5) (i := i) (kk := .i64) (d := 34) (by omega) (by omega) (k := ?_)
      refine WL.rw (t := 32) (v := .slice A4 ((fewL l).length) c5) (congrArg (fun a => Value.slice a ((fewL l).length) c5) (Eq.symm hA34)) (k := ?_)
      refine WL.load (v := GCmd.val r18) ((he35.adds K).ldW (T := 42)) (k := ?_)
      refine WL.newF (d := 36) (T := 42) (Value.cells (GCmd.val r18)) (fun b => .slice (some ⟨b, 0, none⟩) 1 1) (k := fun b39 w40 g41 hb42 k43 => ?_)
      have z44 := Nat.le_trans K.size g41
      have n45 := OwAt.off_new hb13 g41
      replace hb13 := hb13.adds k43
      replace K := K.trans (k43.any _)
      refine WL.append (d := 37) (T := 25) (cl := cmdC) (xs := lgU l i) (ys := [r18]) (c := 1) ekCmd hb13 (SlAt.of_lit (ys := [r18]) ekCmd hb42 (by kernel_rfl)) (by simp; omega) (k := fun A46 c47 w48 ho49 k50 n51 => ?_)
      have ol52 := olink_step ol14 K n51
      replace K := K.trans' k50 (fun i hi e => absurd hi (Nat.not_lt.2 (ol14 i e)))
      clear hb13
      refine WL.op (d := 4) (.slice A46 ((lgU l i ++ [r18]).length) c47) (k := ?_)
      refine WL.nil ?_
      refine WX.seqN ?_
      refine WC.region ?_
      refine WL.op (d := 38) (.string ⟨(bkS l i).toArray⟩) (k := ?_)
      refine WL.bin (d := 39) (v := .string ⟨((bkS l i) ++ [32]).toArray⟩) (cat_run (by (try simp only [List.length_append, List.length_cons, List.length_nil]); omega)) (k := ?_)
      refine WL.op (d := 40) (.string ⟨(lineW r18.p).toArray⟩) (k := ?_)
      refine WL.bin (d := 41) (v := .string ⟨((bkS l i) ++ [32] ++ (lineW r18.p)).toArray⟩) (cat_run (by (try simp only [List.length_append, List.length_cons, List.length_nil]); omega)) (k := ?_)
      refine WL.bin (d := 42) (v := .string ⟨((bkS l i) ++ [32] ++ (lineW r18.p) ++ [32, 32, 10, 59, 255, 10]).toArray⟩) (cat_run (by (try simp only [List.length_append, List.length_cons, List.length_nil]); omega)) (k := ?_)
      refine WL.op (d := 5) (.string ⟨((bkS l i) ++ [32] ++ (lineW r18.p) ++ [32, 32, 10, 59, 255, 10]).toArray⟩) (k := ?_)
      refine WL.nil ?_
      refine WX.blockN ?_
      refine WX.seqN ?_
      refine WC.region ?_
      refine WL.op (d := 22) (.int .i64 i) (k := ?_)
      refine WL.opE (d := 23) (.int .i64 (IntKind.i64.wrap (i + 1))) (v := .int .i64 (i + 1)) (congrArg (Value.int .i64) (IntWalk.i64_in _ (by omega))) (k := ?_)
      refine WL.op (d := 7) (.int .i64 (i + 1)) (k := ?_)
      refine WL.nil ?_
      refine WX.rw (t := 5) (v := .string ⟨(bkS l (i + 1)).toArray⟩) (congrArg (fun l : List UInt8 => Value.string ⟨l.toArray⟩) (bkS_s1 i0 hr19 ph29)) (k := ?_)
      have e53 : lgU l i ++ [r18] = lgU l (i + 1) := lg_s1 i0 hr19 (lineB_iff.1 ph29)
      rw [e53] at ho49
      refine WX.rw (t := 4) (v := .slice A46 ((lgU l (i + 1)).length) c47) (congrArg (fun l => Value.slice A46 (List.length l) c47) e53) (k := ?_)
      refine WX.round (i + 1, A46, c47) (by show ((fewL l).length - (i + 1)).toNat < ((fewL l).length - i).toNat; omega) ⟨(by kernel_rfl), (by kernel_rfl), (by kernel_rfl), (by kernel_rfl), (by kernel_rfl), (by kernel_rfl), (by kernel_rfl), (by kernel_rfl), (by kernel_rfl), (by kernel_rfl), trivial⟩ ⟨K, ho49, ol52, (by omega), (by omega)⟩
    · have h54 : (decide (lineW r18.p = [])) = true := Bool.not_inj (y := true) h28
      have ph54 := of_decide_eq_true h54
      refine WC.skip ?_
      refine WX.blockN ?_
      refine WX.seqN ?_
      refine WC.region ?_
      refine WL.op (d := 22) (.int .i64 i) (k := ?_)
      refine WL.opE (d := 23) (.int .i64 (IntKind.i64.wrap (i + 1))) (v := .int .i64 (i + 1)) (congrArg (Value.int .i64) (IntWalk.i64_in _ (by omega))) (k := ?_)
      refine WL.op (d := 7) (.int .i64 (i + 1)) (k := ?_)
      refine WL.nil ?_
      refine WX.rw (t := 5) (v := .string ⟨(bkS l (i + 1)).toArray⟩) (congrArg (fun l : List UInt8 => Value.string ⟨l.toArray⟩) (bkS_s2 i0 hr19 ph54)) (k := ?_)
      have e55 : lgU l i = lgU l (i + 1) := lg_s2 i0 hr19 (fun k => lineB_iff.2 k ph54)
      rw [e55] at hb13
      refine WX.rw (t := 4) (v := .slice Ao ((lgU l (i + 1)).length) co) (congrArg (fun l => Value.slice Ao (List.length l) co) e55) (k := ?_)
      refine WX.round (i + 1, Ao, co) (by show ((fewL l).length - (i + 1)).toNat < ((fewL l).length - i).toNat; omega) ⟨(by kernel_rfl), (by kernel_rfl), (by kernel_rfl), (by kernel_rfl), (by kernel_rfl), (by kernel_rfl), (by kernel_rfl), (by kernel_rfl), (by kernel_rfl), (by kernel_rfl), trivial⟩ ⟨K, hb13, ol14, (by omega), (by omega)⟩
  · have ph15 := of_decide_eq_false h15
    refine WC.exit ?_
    refine WX.seqE ?_
    refine WX.seqE ?_
    refine WX.blockE ?_
    refine WX.seqN ?_
    refine WC.seq ?_
    have ei_ : ((fewL l).length : Int) ≤ i := by omega
    have e_ : lgU l i = lgL l := lgU_end ei_
    rw [e_] at hb13
    have gl_ := lgL_len l
    refine WC.rw (t := 4) (v := .slice Ao ((lgL l).length) co) (congrArg (fun X : List GCmd => Value.slice Ao X.length co) e_) (k := ?_)
    refine WC.region ?_
    refine WL.op (d := 44) (.slice Ao ((lgL l).length) co) (k := ?_)
    refine WL.callG (d := 45) (f := 12) (args := #[.slice Ao ((lgL l).length) co]) (lnText_c (cp := co) (hG.keeps K (fun _ _ x => x)) (hb13.sl ekCmd) (Fts.le (hFg.adds K) (by omega)) (by first | omega | (simp; omega))) (k := fun e_ w57 h_ => ⟨.string ⟨(textW (List.map GCmd.p (lgL l))).toArray⟩, h_.1, ?_⟩)
    have k58 := h_.2; clear h_
    replace hb13 := hb13.adds k58
    replace K := K.trans (k58.any _)
    have tl56 := textW_len (ps := List.map GCmd.p (lgL l)) (by rw [List.length_map]; omega)
    refine WL.callG (d := 46) (f := 7) (args := #[.string ⟨(textW (List.map GCmd.p (lgL l))).toArray⟩]) (lnParse_c (l := (textW (List.map GCmd.p (lgL l)))) (by first | omega | (simp; done) | (simp; omega)) (hG.keeps K (fun _ _ x => x))) (k := fun e_ w59 h_ => ?_)
    obtain ⟨xs60, A61, c62, n63, rfl, ho64, hF65, hP66, k67, ol68⟩ := h_
    refine ⟨_, rfl, ?_⟩
    have ol69 := fun i h => Nat.le_trans K.size (ol68 i h)
    replace hb13 := hb13.adds k67
    replace K := K.trans (k67.any _)
    clear ol68
    obtain ⟨hx1_, rfl⟩ := bk_p1 hP66
    have pl70 : xs60.length ≤ 6 := by have q_ := congrArg List.length hx1_; simp only [List.length_map] at q_; omega
    refine WL.op (d := 43) (.tuple #[.slice A61 xs60.length c62, .int .i64 0]) (k := ?_)
    refine WL.op (d := 47) (.slice A61 xs60.length c62) (k := ?_)
    refine WL.op (d := 48) (.int .i64 0) (k := ?_)
    refine WL.op (d := 9) (.slice A61 xs60.length c62) (k := ?_)
    refine WL.op (d := 10) (.int .i64 0) (k := ?_)
    refine WL.nil ?_
    refine WX.seqN ?_
    refine WC.seq ?_
    refine WC.region ?_
    refine WL.op (d := 50) (.string ⟨(bkS l i).toArray⟩) (k := ?_)
    refine WL.callG (d := 51) (f := 7) (args := #[.string ⟨(bkS l i).toArray⟩]) (lnParse_c (l := (bkS l i)) (by first | omega | (simp; done) | (simp; omega)) (hG.keeps K (fun _ _ x => x))) (k := fun e_ w71 h_ => ?_)
    obtain ⟨xs72, A73, c74, n75, rfl, ho76, hF77, hP78, k79, ol80⟩ := h_
    refine ⟨_, rfl, ?_⟩
    have ol81 := fun i h => Nat.le_trans K.size (ol80 i h)
    replace hb13 := hb13.adds k79
    replace ho64 := ho64.adds k79
    replace hF65 := hF65.adds k79
    replace K := K.trans (k79.any _)
    clear ol80
    obtain ⟨hx2_, rfl⟩ := bk_p2 ei_ hP78
    have pl82 : xs72.length ≤ 6 := by have q_ := congrArg List.length hx2_; simp only [List.length_map] at q_; omega
    refine WL.op (d := 49) (.tuple #[.slice A73 xs72.length c74, .int .i64 0]) (k := ?_)
    refine WL.op (d := 52) (.slice A73 xs72.length c74) (k := ?_)
    refine WL.op (d := 53) (.int .i64 0) (k := ?_)
    refine WL.op (d := 11) (.slice A73 xs72.length c74) (k := ?_)
    refine WL.op (d := 12) (.int .i64 0) (k := ?_)
    refine WL.nil ?_
    refine WX.seqN ?_
    refine WC.seq ?_
    refine WC.region ?_
    refine WL.op (d := 54) (.slice A61 xs60.length c62) (k := ?_)
    refine WL.op (d := 55) (.slice Ao ((lgL l).length) co) (k := ?_)
    refine WL.callG (d := 56) (f := 13) (args := #[.slice A61 xs60.length c62, .slice Ao ((lgL l).length) co]) (u23SameAll_c (cp := c62) (cq := co) (ho64.sl ekCmd) (Fts.le hF65.fts (by omega)) (by omega) (hb13.sl ekCmd) (Fts.le (hFg.adds K) (by omega)) (by omega)) (k := fun e_ w83 h_ => ⟨.bool (decide (List.map GCmd.p xs60 = List.map GCmd.p (lgL l))), h_.1, ?_⟩)
    have k84 := h_.2; clear h_
    replace hb13 := hb13.adds k84
    replace ho64 := ho64.adds k84
    replace ho76 := ho76.adds k84
    replace hF65 := hF65.adds k84
    replace hF77 := hF77.adds k84
    replace K := K.trans (k84.any _)
    refine WL.op (d := 13) (.bool (decide (List.map GCmd.p xs60 = List.map GCmd.p (lgL l)))) (k := ?_)
    refine WL.nil ?_
    refine WX.seqN ?_
    refine WC.seq ?_
    refine WC.region ?_
    refine WL.op (d := 57) (.slice A73 xs72.length c74) (k := ?_)
    refine WL.op (d := 58) (.slice Ao ((lgL l).length) co) (k := ?_)
    refine WL.callG (d := 59) (f := 13) (args := #[.slice A73 xs72.length c74, .slice Ao ((lgL l).length) co]) (u23SameAll_c (cp := c74) (cq := co) (ho76.sl ekCmd) (Fts.le hF77.fts (by omega)) (by omega) (hb13.sl ekCmd) (Fts.le (hFg.adds K) (by omega)) (by omega)) (k := fun e_ w85 h_ => ⟨.bool (decide (List.map GCmd.p xs72 = List.map GCmd.p (lgL l))), h_.1, ?_⟩)
    have k86 := h_.2; clear h_
    replace hb13 := hb13.adds k86
    replace ho64 := ho64.adds k86
    replace ho76 := ho76.adds k86
    replace hF65 := hF65.adds k86
    replace hF77 := hF77.adds k86
    replace K := K.trans (k86.any _)
    refine WL.op (d := 14) (.bool (decide (List.map GCmd.p xs72 = List.map GCmd.p (lgL l)))) (k := ?_)
    refine WL.nil ?_
    refine WX.seqN ?_
    refine WC.seq ?_
    refine WC.region ?_
    refine WL.op (d := 60) (.bool true) (k := ?_)
    refine WL.op (d := 61) (.bool true) (k := ?_)
    refine WL.op (d := 62) (.int .i64 0) (k := ?_)
    refine WL.op (d := 63) (.bool true) (k := ?_)
    refine WL.op (d := 64) (.bool true) (k := ?_)
    refine WL.op (d := 65) (.bool true) (k := ?_)
    refine WL.op (d := 66) (.int .i64 0) (k := ?_)
    refine WL.op (d := 67) (.bool true) (k := ?_)
    refine WL.op (d := 68) (.bool true) (k := ?_)
    refine WL.op (d := 69) (.bool true) (k := ?_)
    refine WL.op (d := 70) (.bool (decide (List.map GCmd.p xs60 = List.map GCmd.p (lgL l)))) (k := ?_)
    refine WL.op (d := 71) (.bool (decide (List.map GCmd.p xs60 = List.map GCmd.p (lgL l)))) (k := ?_)
    refine WL.op (d := 72) (.bool (decide (List.map GCmd.p xs60 = List.map GCmd.p (lgL l)))) (k := ?_)
    refine bsplit (decide (List.map GCmd.p xs60 = List.map GCmd.p (lgL l))) (fun h87 => ?_) (fun h87 => ?_)
    · have ph87 := of_decide_eq_true h87
      refine WL.rw (t := 72) (v := .bool true) (congrArg Value.bool h87) (k := ?_)
      refine WL.op (d := 73) (.bool (decide (List.map GCmd.p xs72 = List.map GCmd.p (lgL l)))) (k := ?_)
      refine WL.op (d := 74) (.bool (decide (List.map GCmd.p xs72 = List.map GCmd.p (lgL l)))) (k := ?_)
      refine WL.op (d := 2) (.bool (decide (List.map GCmd.p xs72 = List.map GCmd.p (lgL l)))) (k := ?_)
      refine WL.nil ?_
      refine WX.seqN ?_
      refine WC.ret ?_
      refine WX.ret (rs := [.tmp 2]) [.bool (decide (List.map GCmd.p xs72 = List.map GCmd.p (lgL l)))] (.bool (decide (List.map GCmd.p xs72 = List.map GCmd.p (lgL l)))) ⟨(by kernel_rfl), trivial⟩ (k := ?_)
      exact ⟨ret_bool (decide_eq_true (by first | exact hx1_ | exact hx2_)), K0.trans K⟩
    · have ph87 := of_decide_eq_false h87
      refine WL.rw (t := 72) (v := .bool false) (congrArg Value.bool h87) (k := ?_)
      refine WL.skip (d := 73) (k := ?_)
      refine WL.op (d := 74) (.bool false) (k := ?_)
      refine WL.op (d := 2) (.bool false) (k := ?_)
      refine WL.nil ?_
      refine WX.seqN ?_
      refine WC.ret ?_
      refine WX.ret (rs := [.tmp 2]) [.bool false] (.bool false) ⟨(by kernel_rfl), trivial⟩ (k := ?_)
      exact absurd (by first | exact hx1_ | exact hx2_) ph87
end Go.Proofs.YtoeinhlmkpgjhaaDoor
namespace Go.Proofs.YtoeinhlmkpgjhaaDoor
open Go.RowKit
set_option linter.unusedVariables false
theorem gb_ofb {W : World} (hsh : W.ShapedOpen Tryd.prog) (hL : laidMetH Tryd.prog Rows.linesBackRow.laid W) : GB W := by
  refine ⟨?_, ?_, ?_⟩
  · exact cell_of_shapedOpen_int hsh (of_decide_eq_true (by kernel_rfl)) (zero := #[.int .i64 0]) (t := 3) (by kernel_rfl) rfl (by kernel_rfl) (by kernel_rfl) Tryd.underlying3
  · have h := hL.filter (fun x => x.1 == "internal/strconv.uint64pow10")
    rw [MakeChecks.laidMetH_plain _ _ _ (by kernel_rfl)] at h
    exact Lib.tabIs_of_head (rest := []) (n := 20) (e := 115) (g := 1) (t := (((Tryd.prog.globals[1]?).map (·.type)).getD 0)) (by kernel_rfl) (by kernel_rfl) (by kernel_rfl) (by kernel_rfl) (by kernel_rfl) (by kernel_rfl) h
  · have e : (((begin Tryd.prog (fun _ _ => 0) default).world.heap[5]?).bind Obj.row?).isSome = true := by kernel_rfl
    obtain ⟨⟨z, t⟩, hz⟩ := Option.isSome_iff_exists.1 e
    obtain ⟨cs, hh, _⟩ := hsh.1 5 z t (of_decide_eq_true (by kernel_rfl)) hz
    exact lt_of_heap hh
end Go.Proofs.YtoeinhlmkpgjhaaDoor
namespace Go.Proofs.YtoeinhlmkpgjhaaDoor
open Go.RowKit
set_option linter.unusedVariables false
end Go.Proofs.YtoeinhlmkpgjhaaDoor
namespace Go.Proofs.YtoeinhlmkpgjhaaDoor
open Go.RowKit
set_option linter.unusedVariables false
theorem isSlAtP {α : Type} {P : α → Prop} {cl : α → List Value} {m : Nat} {E : TypeId} {El : World → List Value → Prop} {w : World} (hel : ∀ es, El w es → ∃ x, es = cl x ∧ P x) (hl : ∀ x, (cl x).length = m) (hm : 0 < m) {A : Option Addr} {n c : Nat} (h : IsSl m El w [.slice A n c]) :
    ∃ xs : List α, n = xs.length ∧ SlAt cl m E A xs w ∧ xs.length ≤ c ∧ c ≤ maxLen ∧ ∀ x ∈ xs, P x := by
  rcases h with h | ⟨a, len, cap, h, hlc, hcm, hi⟩
  · simp only [List.cons.injEq, Value.slice.injEq, and_true] at h
    obtain ⟨rfl, rfl, rfl⟩ := h
    exact ⟨[], rfl, .inl rfl, Nat.le_refl _, Nat.zero_le _, by simp⟩
  · simp only [List.cons.injEq, Value.slice.injEq, and_true] at h
    obtain ⟨rfl, rfl, rfl⟩ := h
    by_cases h0 : n = 0
    · subst h0; exact ⟨[], rfl, .inl rfl, by simp, hcm, by simp⟩
    have hex : ∀ i : Fin n, ∃ x : α, (∀ j, j < m → w.cell? ((a.add (i.1 * m)).add j) = (cl x)[j]?) ∧ P x := fun i => by
      obtain ⟨es, h1, h2, h3⟩ := hi i.1 i.2
      obtain ⟨x, rfl, hp⟩ := hel es h3
      exact ⟨x, h2, hp⟩
    obtain ⟨f, hex2⟩ := Classical.axiomOfChoice hex
    have hex' := fun i => (hex2 i).1
    refine ⟨List.ofFn f, by simp, .inr ?_, by simpa using hlc, hcm, fun x hx => by obtain ⟨i, rfl⟩ := List.mem_ofFn.1 hx; exact (hex2 i).2⟩
    have hc0 := hex' ⟨0, by omega⟩ 0 hm
    have hs : ∃ v, (cl (f ⟨0, by omega⟩))[0]? = some v := ⟨_, List.getElem?_eq_getElem (by rw [hl]; exact hm)⟩
    obtain ⟨v, hv⟩ := hs
    rw [hv] at hc0
    simp only [Nat.zero_mul, addr_add0] at hc0
    obtain ⟨b, o, sp⟩ := a
    have hsp : sp = none := World.cell?_spot hc0
    subst hsp
    have hc : ∀ (i : Fin n) j, j < m → w.cell? ⟨b, o + i.1 * m + j, none⟩ = (cl (f i))[j]? := fun i j hj => by
      have := hex' i j hj
      rwa [addr_add, addr_add] at this
    unfold World.cell? at hc hc0
    cases hb : w.heap[b]? with
    | none => simp [hb] at hc0
    | some ob =>
      cases ob with
      | cells cs E' fz =>
        simp only [hb, Option.isSome_none, Bool.false_eq_true, if_false] at hc
        refine ⟨b, o, cs, E', fz, rfl, hb, ?_, fun i r hr => ?_⟩
        · rw [List.length_ofFn]
          have h1 := hc ⟨n - 1, by omega⟩ (m - 1) (by omega)
          have h2 : (cl (f ⟨n - 1, by omega⟩))[m - 1]? = some _ := List.getElem?_eq_getElem (by rw [hl]; omega)
          rw [h2] at h1
          have h3 := (Array.getElem?_eq_some_iff.1 h1).1
          have h4 : (n - 1) * m + m = n * m := by
            have : n = n - 1 + 1 := by omega
            conv => rhs; rw [this, Nat.add_mul, Nat.one_mul]
          simp only at h3
          omega
        · have hlt : i < n := by have := (List.getElem?_eq_some_iff.1 hr).1; simpa using this
          rw [List.getElem?_ofFn, dif_pos hlt] at hr
          cases hr
          refine List.ext_getElem? fun j => ?_
          by_cases hj : j < m
          · rw [List.getElem?_take_of_lt hj, List.getElem?_drop, ← hc ⟨i, hlt⟩ j hj]; simp
          · rw [List.getElem?_eq_none (by rw [List.length_take]; omega), List.getElem?_eq_none (by rw [hl]; omega)]
      | _ => simp [hb] at hc0
theorem isSlAt {α : Type} {cl : α → List Value} {m : Nat} {E : TypeId} {El : World → List Value → Prop} {w : World} (hel : ∀ es, El w es → ∃ x, es = cl x) (hl : ∀ x, (cl x).length = m) (hm : 0 < m) {A : Option Addr} {n c : Nat} (h : IsSl m El w [.slice A n c]) :
    ∃ xs : List α, n = xs.length ∧ SlAt cl m E A xs w ∧ xs.length ≤ c ∧ c ≤ maxLen := by
  obtain ⟨xs, h1, h2, h3, h4, _⟩ := isSlAtP (P := fun _ => True) (E := E) (fun es he => by obtain ⟨x, hx⟩ := hel es he; exact ⟨x, hx, trivial⟩) hl hm h
  exact ⟨xs, h1, h2, h3, h4⟩
end Go.Proofs.YtoeinhlmkpgjhaaDoor
namespace Go.Proofs.YtoeinhlmkpgjhaaDoor
open Go.RowKit
set_option linter.unusedVariables false
theorem i64_wf {x : Int} (h2 : (Lit.int .i64 x).wf = true) : i64B x := by
  simp [Lit.wf, IntKind.min, IntKind.max, IntKind.signed, IntKind.bits] at h2
  exact ⟨by omega, by omega⟩
theorem isOp {w : World} {cs : Array Value} (h : IsOp w cs.toList) : ∃ o : GOp, o.wf ∧ Value.agg cs = o.val := by
  obtain ⟨l⟩ := cs
  obtain ⟨c0, c1, c2, c3, c4, c5, rfl, ⟨k, rfl, hk⟩, ⟨t0, t1, t2, t3, t4, rfl, ⟨a, rfl, ha⟩, ⟨b, rfl, hb⟩, ⟨c, rfl, hc⟩, ⟨d, rfl, hd⟩, ⟨e, rfl, he⟩⟩, ⟨sv, rfl⟩, ⟨i, rfl, hi⟩, ⟨cc, rfl, hcc⟩, ⟨m, rfl, hm⟩⟩ := h
  exact ⟨⟨k, ⟨a, b, c, d, e⟩, sv, i, cc, m⟩, ⟨i64_wf hk, ⟨i64_wf ha, i64_wf hb, i64_wf hc, i64_wf hd, i64_wf he⟩, i64_wf hi, i64_wf hcc, i64_wf hm⟩, rfl⟩
end Go.Proofs.YtoeinhlmkpgjhaaDoor
namespace Go.Proofs.YtoeinhlmkpgjhaaDoor
open Go.RowKit
set_option linter.unusedVariables false
theorem isFate {w : World} {cs : List Value} (h : IsFate w cs) : ∃ f : GFate, cs = fateC f := by
  obtain ⟨c0, c1, rfl, ⟨k, rfl, hk⟩, ⟨a, rfl, ha⟩⟩ := h
  exact ⟨⟨k, a⟩, rfl⟩
theorem isCmd {w : World} {cs : List Value} (h : IsCmd w cs) : ∃ c : GCmd, cs = cmdC c ∧ SlAt fateC 2 89 c.A c.p.fs w ∧ c.p.fs.length ≤ c.cap ∧ c.p.fs.length ≤ 9223372036854775807 := by
  obtain ⟨c0, c1, c2, c3, c4, c5, rfl, ⟨k, rfl, hk⟩, ho, ⟨i, rfl, hi⟩, ⟨wk, rfl, hwk⟩, ⟨n, rfl, hn⟩, hs⟩ := h
  obtain ⟨o, _, hov⟩ := isOp (cs := c1.toArray) (by simpa using ho)
  simp only [Value.agg.injEq] at hov
  have hov : c1 = [.int .i64 o.kind, .int .i64 o.task.id, .int .i64 o.task.c, .int .i64 o.task.d, .int .i64 o.task.t, .int .i64 o.task.m, .bool o.sv, .int .i64 o.id, .int .i64 o.c, .int .i64 o.m] := by
    have := congrArg Array.toList hov; simpa using this
  subst hov
  have hv : ∃ A n c, c5 = [.slice A n c] := by
    rcases hs with rfl | ⟨a, len, cap, rfl, _⟩ <;> exact ⟨_, _, _, rfl⟩
  obtain ⟨A, m, c, rfl⟩ := hv
  obtain ⟨fs, rfl, h1, h2, h3⟩ := isSlAt (cl := fateC) (E := 89) (fun es h => isFate h) (fun _ => rfl) (by decide) hs
  exact ⟨⟨⟨k, o, i, wk, n, fs⟩, A, c⟩, rfl, h1, h2, by unfold maxLen at h3; simp only; omega⟩
theorem isCmds {w : World} {A : Option Addr} {n c : Nat} (h : IsSl 15 (fun w c => IsCmd w c) w [.slice A n c]) : ∃ l : List GCmd, n = l.length ∧ SlAt cmdC 15 42 A l w ∧ Fts 9223372036854775807 l w ∧ l.length ≤ 9223372036854775807 := by
  obtain ⟨xs, h1, h2, h3, h4, h5⟩ := isSlAtP (cl := cmdC) (E := 42) (fun es h => isCmd h) (fun _ => rfl) (by decide) h
  exact ⟨xs, h1, h2, h5, by unfold maxLen at h4; omega⟩
end Go.Proofs.YtoeinhlmkpgjhaaDoor
