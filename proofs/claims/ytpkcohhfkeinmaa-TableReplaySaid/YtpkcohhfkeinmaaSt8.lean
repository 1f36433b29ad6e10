/- TableReplays, TableReplay. -/
import Derived.Test.YtpkcohhfkeinmaaSt7
namespace Go.Proofs.Ytpkcohhfkeinmaa
open Go.RowKit
set_option linter.unusedVariables false
set_option linter.unusedSimpArgs false

theorem tSame_r {A B : Option Addr} {cp cq : Nat} {xs : List GRow} {ma : Int} {w : World} (hA : SlAt rowC 6 53 A xs w) (hB : SlAt rowC 6 53 B xs w) (hn : xs.length ≤ 1000000000) : Calls Try.prog 21 #[.agg #[.slice A xs.length cp, .int .i64 ma], .agg #[.slice B xs.length cq, .int .i64 ma]] w fun e w' => e = .returned (.bool true) ∧ Adds w w' := by
  have h := tSame_c (cp := cp) (cq := cq) (ma := ma) (mb := ma) hA hB hn hn
  simpa using h
theorem tReplay_e {L : Option Addr} {lc k : Nat} {ls : List (List UInt8)} {t : GTable} {w : World} (hL : SlAt strC 1 9 L ls w) (hl : ls.length ≤ 1000000) (hm_ : ∀ s ∈ ls, s.length ≤ 1000000) (h : replayT GTable.zero ls = (t, k)) : Calls Try.prog 32 #[.agg #[.slice none 0 0, .int .i64 0], .slice L ls.length lc] w (RepRes (t, k) w) := by
  have := tReplay_c (A := none) (cp := 0) (rows := []) (md := 0) (lc := lc) (w := w) SlAt.nil (by simp) (by simp) hL hl hm_
  rwa [show replayT ⟨[], 0⟩ ls = (t, k) from h] at this

set_option maxRecDepth 100000 in
set_option maxHeartbeats 4000000 in
theorem tableReplays_any {L M : Option Addr} {lc mc : Nat} {l m : List GOp} {w : World} (hL : SlAt opC 10 46 L l w) (hl : l.length ≤ 9223372036854775807) (hM : SlAt opC 10 46 M m w) (hm : m.length ≤ 9223372036854775807) (q0 q1 : Int) : Calls Try.prog 7 #[.slice L l.length lc, .slice M m.length mc, .agg #[.int .i64 q0, .int .i64 q1]] w fun e w' => e = .returned (.bool true) ∧ Adds w w' := by
  have K : Keeps (fun _ => False) w w := Keeps.refl _ w
  refine Calls.start Try.func7 rfl (by kernel_rfl) ?_
  refine WC.seq ?_
  refine WC.region ?_
  refine WL.new (d := 5) (T := 26) #[.int .i64 q0, .int .i64 q1] (k := fun b1 w2 g3 hb4 k5 => ?_)
  have z6 := Nat.le_trans K.size g3
  replace K := K.trans (k5.any _)
  refine WL.op (d := 6) (.bool false) (k := ?_)
  refine WL.nil ?_
  refine WX.seqN ?_
  refine WC.seq ?_
  refine WC.region ?_
  refine WL.callG (d := 18) (f := 16) (args := #[]) (l14awake_c w2) (k := fun e_ w7 h_ => ⟨.bool true, h_.1, ?_⟩)
  have k8 := h_.2; clear h_
  replace hb4 := k8.heap hb4 id
  replace K := K.trans (k8.any _)
  refine WL.op (d := 7) (.bool true) (k := ?_)
  refine WL.nil ?_
  refine WX.seqN ?_
  refine WC.seq ?_
  refine WC.region ?_
  refine WL.op (d := 8) (.slice none 0 0) (k := ?_)
  refine WL.nil ?_
  refine WX.seqN ?_
  refine WC.seq ?_
  refine WC.seq ?_
  refine WC.region ?_
  refine WL.op (d := 9) (.int .i64 0) (k := ?_)
  refine WL.nil ?_
  refine WX.seqN ?_
  refine WC.block ?_
  refine WC.loop (ι := Int × (List (List UInt8)) × (Option Addr) × Nat) (fun (⟨i, txs, Bo, bo⟩ : Int × (List (List UInt8)) × (Option Addr) × Nat) => [(0, .slice L l.length lc), (1, .slice M m.length mc), (2, .agg #[.int .i64 q0, .int .i64 q1]), (5, .pointer (some ⟨b1, 0, none⟩)), (6, .bool false), (18, .bool true), (7, .bool true), (9, .int .i64 i), (8, .slice Bo txs.length bo)]) (fun (⟨i, txs, Bo, bo⟩ : Int × (List (List UInt8)) × (Option Addr) × Nat) (w_ : World) => (Keeps (fun _ => False) w w_) ∧ (w_.heap[b1]? = some (.cells #[.int .i64 q0, .int .i64 q1] 26 (0, 0))) ∧ (OwAt strC 1 9 Bo bo txs w_) ∧ (∀ i, blk Bo = some i → w.heap.size ≤ i) ∧ (0 ≤ i) ∧ (i ≤ m.length) ∧ (i ≤ 10) ∧ (txs.length ≤ i) ∧ (∀ s ∈ txs, s.length ≤ 100)) (fun (⟨i, txs, Bo, bo⟩ : Int × (List (List UInt8)) × (Option Addr) × Nat) => (m.length - i).toNat) (0, [], none, 0) ⟨(by kernel_rfl), (by kernel_rfl), (by kernel_rfl), (by kernel_rfl), (by kernel_rfl), (by kernel_rfl), (by kernel_rfl), (by kernel_rfl), (by kernel_rfl), trivial⟩ ⟨K, hb4, OwAt.nil, (by simp [blk]), Int.le_refl 0, (by omega), (by decide), (Int.le_refl _), (by simp)⟩ ?_
  rintro ⟨i, txs, Bo, bo⟩ w9 ⟨K, hb10, hb11, ol12, i0, i1, i2, txn, txm⟩
  refine WC.seq ?_
  refine WC.seq ?_
  refine WC.region ?_
  refine WL.op (d := 19) (.int .i64 i) (k := ?_)
  refine WL.op (d := 20) (.slice M m.length mc) (k := ?_)
  refine WL.op (d := 21) (.int .i64 (m.length : Int)) (k := ?_)
  refine WL.op (d := 22) (.bool (decide (i < (m.length : Int)))) (k := ?_)
  refine WL.op (d := 23) (.bool (decide (i < (m.length : Int)))) (k := ?_)
  refine bsplit (decide (i < (m.length : Int))) (fun h13 => ?_) (fun h13 => ?_)
  · have ph13 := of_decide_eq_true h13
    refine WL.rw (t := 23) (v := .bool true) (congrArg Value.bool h13) (k := ?_)
    refine WL.op (d := 24) (.int .i64 i) (k := ?_)
    refine WL.op (d := 25) (.bool (decide (i < 10))) (k := ?_)
    refine WL.op (d := 26) (.bool (decide (i < 10))) (k := ?_)
    refine WL.nil ?_
    refine WX.seqN ?_
    refine WC.cond (b := decide (i < 10)) (ht := fun h14 => ?_) (hf := fun h14 => ?_)
    · have ph14 := of_decide_eq_true h14
      refine WC.skip ?_
      refine WX.seqN ?_
      refine WC.seq ?_
      refine WC.block ?_
      refine WC.seq ?_
      refine WC.region ?_
      refine WL.op (d := 30) (.slice M m.length mc) (k := ?_)
      refine WL.op (d := 31) (.int .i64 i) (k := ?_)
      obtain ⟨b15, o16, r17, hr18, hA19, he20⟩ := SlAt.at hM (i := i) (by omega) (by omega)
      refine WL.rw (t := 30) (v := .slice (some ⟨b15, o16, none⟩) m.length mc) (congrArg (fun a => Value.slice a m.length mc) hA19) (k := ?_)
      refine WL.idx (T := 25) (E := 46) (m := 10) (b := b15) (o := o16) (len := m.length) (cap := mc) (i := i) (kk := .i64) (d := 32) (by omega) (by omega) (k := ?_)
      refine WL.rw (t := 30) (v := .slice M m.length mc) (congrArg (fun a => Value.slice a m.length mc) (Eq.symm hA19)) (k := ?_)
      refine WL.load (v := GOp.val r17) ((he20.adds K).ldW (T := 46)) (k := ?_)
      refine WL.callG (d := 34) (f := 28) (args := #[GOp.val r17]) (l14near_c r17 w9) (k := fun e_ w21 h_ => ⟨GOp.val (nearOp r17), h_.1, ?_⟩)
      have k22 := h_.2; clear h_
      replace hb10 := k22.heap hb10 id
      replace hb11 := hb11.adds k22
      replace K := K.trans (k22.any _)
      refine bsplit (decide (GOp.ok (nearOp r17))) (fun h23 => ?_) (fun h23 => ?_)
      · have ph23 := of_decide_eq_true h23
        refine WL.callG (d := 35) (f := 31) (args := #[GOp.val (nearOp r17)]) (u13Bytes_ok (nearOp r17) ph23 w21) (k := fun e_ w25 h_ => ⟨.tuple #[.string ⟨(GOp.enc (nearOp r17)).toArray⟩, .int .i64 0], h_.1, ?_⟩)
        have k26 := h_.2; clear h_
        replace hb10 := k26.heap hb10 id
        replace hb11 := hb11.adds k26
        replace K := K.trans (k26.any _)
        have ln24 := enc_len43 ph23
        refine WL.op (d := 29) (.tuple #[.string ⟨(GOp.enc (nearOp r17)).toArray⟩, .int .i64 0]) (k := ?_)
        refine WL.op (d := 36) (.string ⟨(GOp.enc (nearOp r17)).toArray⟩) (k := ?_)
        refine WL.op (d := 37) (.int .i64 0) (k := ?_)
        refine WL.op (d := 10) (.string ⟨(GOp.enc (nearOp r17)).toArray⟩) (k := ?_)
        refine WL.op (d := 11) (.int .i64 0) (k := ?_)
        refine WL.nil ?_
        refine WX.seqN ?_
        refine WC.seq ?_
        refine WC.seq ?_
        refine WC.region ?_
        refine WL.op (d := 38) (.int .i64 i) (k := ?_)
        refine WL.op (d := 39) (.pointer (some ⟨b1, 0, none⟩)) (k := ?_)
        refine WL.load (v := .int .i64 q0) (ld1 (T := 3) (i := 0) hb10) (k := ?_)
        refine WL.bin (d := 41) (v := .int .i64 (bits BinOp.and IntKind.i64 q0 15)) (bits_run (by decide)) (k := ?_)
        refine WL.op (d := 42) (.bool (i == (bits BinOp.and IntKind.i64 q0 15))) (k := ?_)
        refine WL.op (d := 43) (.bool (i == (bits BinOp.and IntKind.i64 q0 15))) (k := ?_)
        refine bsplit (i == (bits BinOp.and IntKind.i64 q0 15)) (fun h27 => ?_) (fun h27 => ?_)
        · have ph27 := eq_of_beq h27
          refine WL.rw (t := 43) (v := .bool true) (congrArg Value.bool h27) (k := ?_)
          refine WL.op (d := 44) (.string ⟨(GOp.enc (nearOp r17)).toArray⟩) (k := ?_)
          refine WL.op (d := 45) (.int .i64 ((GOp.enc (nearOp r17)).length : Int)) (k := ?_)
          refine WL.op (d := 46) (.bool (decide (((GOp.enc (nearOp r17)).length : Int) > 0))) (k := ?_)
          refine WL.op (d := 47) (.bool (decide (((GOp.enc (nearOp r17)).length : Int) > 0))) (k := ?_)
          refine WL.nil ?_
          refine WX.seqN ?_
          refine WC.cond (b := decide (((GOp.enc (nearOp r17)).length : Int) > 0)) (ht := fun h28 => ?_) (hf := fun h28 => ?_)
          · have ph28 := of_decide_eq_true h28
            refine WC.seq ?_
            refine WC.region ?_
            refine WL.op (d := 48) (.string ⟨(GOp.enc (nearOp r17)).toArray⟩) (k := ?_)
            obtain ⟨b29, c30, w31, g32, hc33, hy34, k35⟩ := run_toBytesB (GOp.enc (nearOp r17)) w25
            refine WL.conv (d := 49) (vx := .string ⟨(GOp.enc (nearOp r17)).toArray⟩) (v := .slice (some ⟨b29, 0, none⟩) ((GOp.enc (nearOp r17)).length) c30) hc33 (k := ?_)
            clear hc33
            have z36 := Nat.le_trans K.size g32
            have n37 : b1 ≠ b29 := Nat.ne_of_lt (Nat.lt_of_lt_of_le (lt_of_heap hb10) g32)
            replace hb10 := k35.heap hb10 id
            replace hb11 := hb11.adds k35
            replace K := K.trans (k35.any _)
            refine WL.op (d := 12) (.slice (some ⟨b29, 0, none⟩) ((GOp.enc (nearOp r17)).length) c30) (k := ?_)
            refine WL.nil ?_
            refine WX.seqN ?_
            refine WC.seq ?_
            refine WC.tail 15 (k := ?_)
            refine WQ.op (d := 50) (.slice (some ⟨b29, 0, none⟩) ((GOp.enc (nearOp r17)).length) c30) (k := ?_)
            refine WQ.op (d := 51) (.slice (some ⟨b29, 0, none⟩) ((GOp.enc (nearOp r17)).length) c30) (k := ?_)
            refine WQ.op (d := 52) (.int .i64 ((GOp.enc (nearOp r17)).length : Int)) (k := ?_)
            refine WQ.opE (d := 53) (.int .i64 (IntKind.i64.wrap (((GOp.enc (nearOp r17)).length : Int) - 1))) (v := .int .i64 (((GOp.enc (nearOp r17)).length : Int) - 1)) (congrArg (Value.int .i64) (IntWalk.i64_in _ (by omega))) (k := ?_)
            refine WQ.op (d := 54) (.slice (some ⟨b29, 0, none⟩) ((GOp.enc (nearOp r17)).length) c30) (k := ?_)
            refine WQ.op (d := 55) (.slice (some ⟨b29, 0, none⟩) ((GOp.enc (nearOp r17)).length) c30) (k := ?_)
            refine WQ.op (d := 56) (.int .i64 ((GOp.enc (nearOp r17)).length : Int)) (k := ?_)
            refine WQ.opE (d := 57) (.int .i64 (IntKind.i64.wrap (((GOp.enc (nearOp r17)).length : Int) - 1))) (v := .int .i64 (((GOp.enc (nearOp r17)).length : Int) - 1)) (congrArg (Value.int .i64) (IntWalk.i64_in _ (by omega))) (k := ?_)
            refine WQ.idx (T := 39) (E := 5) (m := 1) (b := b29) (o := 0) (len := (GOp.enc (nearOp r17)).length) (cap := c30) (i := ((GOp.enc (nearOp r17)).length : Int) - 1) (kk := .i64) (d := 58) (by omega) (by omega) (k := ?_)
            refine WQ.load (v := .int .u8 (((GOp.enc (nearOp r17))[0 + (((GOp.enc (nearOp r17)).length : Int) - 1).toNat * 1]'(by omega)).toNat : Int)) (fun w_ k_ => bytes_ld (i := 0 + (((GOp.enc (nearOp r17)).length : Int) - 1).toNat * 1) (hy34.keeps k_ id) (by omega)) (k := ?_)
            refine WQ.op (d := 60) (.pointer (some ⟨b1, 1, none⟩)) (k := ?_)
            refine WQ.load (v := .int .i64 q1) (fun w_ k_ => ld1 (T := 3) (i := 1) (k_.heap hb10 id)) (k := ?_)
            refine WQ.op (d := 62) (.int .u8 (IntKind.u8.wrap q1)) (k := ?_)
            refine WQ.bin (d := 63) (v := .int .u8 (bits BinOp.xor IntKind.u8 (((GOp.enc (nearOp r17))[0 + (((GOp.enc (nearOp r17)).length : Int) - 1).toNat * 1]'(by omega)).toNat : Int) (IntKind.u8.wrap q1))) (fun _ => bits_run (by decide)) (k := ?_)
            refine WQ.idx (T := 39) (E := 5) (m := 1) (b := b29) (o := 0) (len := (GOp.enc (nearOp r17)).length) (cap := c30) (i := ((GOp.enc (nearOp r17)).length : Int) - 1) (kk := .i64) (d := 64) (by omega) (by omega) (k := ?_)
            refine WQ.nilL (fun w38 k39 => ?_)
            replace hb10 := k39.heap hb10 id
            replace hb11 := hb11.adds k39
            replace hy34 := hy34.keeps k39 id
            replace K := K.trans (k39.any _)
            obtain ⟨u40, hu41⟩ := bits_u8 BinOp.xor (((GOp.enc (nearOp r17))[0 + (((GOp.enc (nearOp r17)).length : Int) - 1).toNat * 1]'(by omega)).toNat : Int) (IntKind.u8.wrap q1)
            refine WL.rw (t := 63) (v := .int .u8 (u40.toNat : Int)) (congrArg (Value.int .u8) hu41) (k := ?_)
            obtain ⟨w42, hs43, hy44, k45⟩ := bytes_st (i := 0 + (((GOp.enc (nearOp r17)).length : Int) - 1).toNat * 1) hy34 (by omega) u40
            refine WL.wr (v := .int .u8 (u40.toNat : Int)) hs43 (k := ?_)
            replace hb10 := k45.heap hb10 n37
            replace hb11 := hb11.keeps k45 (fun i hi e => (hb11.offT hy34.2 (by decide)) (e ▸ hi))
            replace K := K.trans' k45 (fun i hi e => absurd (e ▸ hi) (Nat.not_lt.2 z36))
            clear hs43 hy34
            refine WL.nil ?_
            refine WX.seqN ?_
            refine WC.region ?_
            refine WL.op (d := 65) (.slice (some ⟨b29, 0, none⟩) ((GOp.enc (nearOp r17)).length) c30) (k := ?_)
            refine WL.conv (d := 66) (vx := .slice (some ⟨b29, 0, none⟩) ((GOp.enc (nearOp r17)).length) c30) (v := .string ⟨(List.set (GOp.enc (nearOp r17)) (0 + (((GOp.enc (nearOp r17)).length : Int) - 1).toNat * 1) u40).toArray⟩) (bytes_strN hy44 (by simp)) (k := ?_)
            refine WL.op (d := 10) (.string ⟨(List.set (GOp.enc (nearOp r17)) (0 + (((GOp.enc (nearOp r17)).length : Int) - 1).toNat * 1) u40).toArray⟩) (k := ?_)
            refine WL.nil ?_
            refine WX.seqN ?_
            refine WC.region ?_
            refine WL.op (d := 67) (.slice Bo txs.length bo) (k := ?_)
            refine WL.op (d := 68) (.string ⟨(List.set (GOp.enc (nearOp r17)) (0 + (((GOp.enc (nearOp r17)).length : Int) - 1).toNat * 1) u40).toArray⟩) (k := ?_)
            refine WL.newF (d := 69) (T := 9) #[.string ⟨(List.set (GOp.enc (nearOp r17)) (0 + (((GOp.enc (nearOp r17)).length : Int) - 1).toNat * 1) u40).toArray⟩] (fun b => .slice (some ⟨b, 0, none⟩) 1 1) (k := fun b46 w47 g48 hb49 k50 => ?_)
            have z51 := Nat.le_trans K.size g48
            have n52 : b1 ≠ b46 := Nat.ne_of_lt (Nat.lt_of_lt_of_le (lt_of_heap hb10) g48)
            have n53 : b29 ≠ b46 := Nat.ne_of_lt (Nat.lt_of_lt_of_le hy44.lt g48)
            replace hb10 := k50.heap hb10 id
            replace hb11 := hb11.adds k50
            replace hy44 := hy44.keeps k50 id
            replace K := K.trans (k50.any _)
            refine WL.append (d := 70) (T := 57) (cl := strC) (xs := txs) (ys := [List.set (GOp.enc (nearOp r17)) (0 + (((GOp.enc (nearOp r17)).length : Int) - 1).toNat * 1) u40]) (c := 1) ekStr hb11 (SlAt.of_lit (ys := [List.set (GOp.enc (nearOp r17)) (0 + (((GOp.enc (nearOp r17)).length : Int) - 1).toNat * 1) u40]) ekStr hb49 (by kernel_rfl)) (by simp; omega) (k := fun A54 c55 w56 ho57 k58 n59 => ?_)
            have ol60 := olink_step ol12 K n59
            replace hb10 := k58.heap hb10 (hb11.offT hb10 (by decide))
            replace hy44 := hy44.keeps k58 (hb11.offT hy44.2 (by decide))
            replace K := K.trans' k58 (fun i hi e => absurd hi (Nat.not_lt.2 (ol12 i e)))
            clear hb11
            refine WL.op (d := 8) (.slice A54 ((txs ++ [List.set (GOp.enc (nearOp r17)) (0 + (((GOp.enc (nearOp r17)).length : Int) - 1).toNat * 1) u40]).length) c55) (k := ?_)
            refine WL.nil ?_
            refine WX.blockN ?_
            refine WX.seqN ?_
            refine WC.region ?_
            refine WL.op (d := 27) (.int .i64 i) (k := ?_)
            refine WL.opE (d := 28) (.int .i64 (IntKind.i64.wrap (i + 1))) (v := .int .i64 (i + 1)) (congrArg (Value.int .i64) (IntWalk.i64_in _ (by omega))) (k := ?_)
            refine WL.op (d := 9) (.int .i64 (i + 1)) (k := ?_)
            refine WL.nil ?_
            refine WX.round (i + 1, txs ++ [List.set (GOp.enc (nearOp r17)) (0 + (((GOp.enc (nearOp r17)).length : Int) - 1).toNat * 1) u40], A54, c55) (by show (m.length - (i + 1)).toNat < (m.length - i).toNat; omega) ⟨(by kernel_rfl), (by kernel_rfl), (by kernel_rfl), (by kernel_rfl), (by kernel_rfl), (by kernel_rfl), (by kernel_rfl), (by kernel_rfl), (by kernel_rfl), trivial⟩ ⟨K, hb10, ho57, ol60, (by omega), (by omega), (by omega), (by simp; omega), (fun s h => by rw [List.mem_append, List.mem_singleton] at h; rcases h with h | rfl; exact txm s h; first | exact Nat.zero_le _ | omega | (simp; omega))⟩
          · have ph28 := of_decide_eq_false h28
            refine WC.skip ?_
            refine WX.seqN ?_
            refine WC.region ?_
            refine WL.op (d := 67) (.slice Bo txs.length bo) (k := ?_)
            refine WL.op (d := 68) (.string ⟨(GOp.enc (nearOp r17)).toArray⟩) (k := ?_)
            refine WL.newF (d := 69) (T := 9) #[.string ⟨(GOp.enc (nearOp r17)).toArray⟩] (fun b => .slice (some ⟨b, 0, none⟩) 1 1) (k := fun b61 w62 g63 hb64 k65 => ?_)
            have z66 := Nat.le_trans K.size g63
            have n67 : b1 ≠ b61 := Nat.ne_of_lt (Nat.lt_of_lt_of_le (lt_of_heap hb10) g63)
            replace hb10 := k65.heap hb10 id
            replace hb11 := hb11.adds k65
            replace K := K.trans (k65.any _)
            refine WL.append (d := 70) (T := 57) (cl := strC) (xs := txs) (ys := [GOp.enc (nearOp r17)]) (c := 1) ekStr hb11 (SlAt.of_lit (ys := [GOp.enc (nearOp r17)]) ekStr hb64 (by kernel_rfl)) (by simp; omega) (k := fun A68 c69 w70 ho71 k72 n73 => ?_)
            have ol74 := olink_step ol12 K n73
            replace hb10 := k72.heap hb10 (hb11.offT hb10 (by decide))
            replace K := K.trans' k72 (fun i hi e => absurd hi (Nat.not_lt.2 (ol12 i e)))
            clear hb11
            refine WL.op (d := 8) (.slice A68 ((txs ++ [GOp.enc (nearOp r17)]).length) c69) (k := ?_)
            refine WL.nil ?_
            refine WX.blockN ?_
            refine WX.seqN ?_
            refine WC.region ?_
            refine WL.op (d := 27) (.int .i64 i) (k := ?_)
            refine WL.opE (d := 28) (.int .i64 (IntKind.i64.wrap (i + 1))) (v := .int .i64 (i + 1)) (congrArg (Value.int .i64) (IntWalk.i64_in _ (by omega))) (k := ?_)
            refine WL.op (d := 9) (.int .i64 (i + 1)) (k := ?_)
            refine WL.nil ?_
            refine WX.round (i + 1, txs ++ [GOp.enc (nearOp r17)], A68, c69) (by show (m.length - (i + 1)).toNat < (m.length - i).toNat; omega) ⟨(by kernel_rfl), (by kernel_rfl), (by kernel_rfl), (by kernel_rfl), (by kernel_rfl), (by kernel_rfl), (by kernel_rfl), (by kernel_rfl), (by kernel_rfl), trivial⟩ ⟨K, hb10, ho71, ol74, (by omega), (by omega), (by omega), (by simp; omega), (fun s h => by rw [List.mem_append, List.mem_singleton] at h; rcases h with h | rfl; exact txm s h; first | exact Nat.zero_le _ | omega | (simp; omega))⟩
        · have ph27 := ne_of_beq_false h27
          refine WL.rw (t := 43) (v := .bool false) (congrArg Value.bool h27) (k := ?_)
          refine WL.skip (d := 44) (k := ?_)
          refine WL.skip (d := 45) (k := ?_)
          refine WL.skip (d := 46) (k := ?_)
          refine WL.op (d := 47) (.bool false) (k := ?_)
          refine WL.nil ?_
          refine WX.seqN ?_
          refine WC.condF (k := ?_)
          refine WC.skip ?_
          refine WX.seqN ?_
          refine WC.region ?_
          refine WL.op (d := 67) (.slice Bo txs.length bo) (k := ?_)
          refine WL.op (d := 68) (.string ⟨(GOp.enc (nearOp r17)).toArray⟩) (k := ?_)
          refine WL.newF (d := 69) (T := 9) #[.string ⟨(GOp.enc (nearOp r17)).toArray⟩] (fun b => .slice (some ⟨b, 0, none⟩) 1 1) (k := fun b75 w76 g77 hb78 k79 => ?_)
          have z80 := Nat.le_trans K.size g77
          have n81 : b1 ≠ b75 := Nat.ne_of_lt (Nat.lt_of_lt_of_le (lt_of_heap hb10) g77)
          replace hb10 := k79.heap hb10 id
          replace hb11 := hb11.adds k79
          replace K := K.trans (k79.any _)
          refine WL.append (d := 70) (T := 57) (cl := strC) (xs := txs) (ys := [GOp.enc (nearOp r17)]) (c := 1) ekStr hb11 (SlAt.of_lit (ys := [GOp.enc (nearOp r17)]) ekStr hb78 (by kernel_rfl)) (by simp; omega) (k := fun A82 c83 w84 ho85 k86 n87 => ?_)
          have ol88 := olink_step ol12 K n87
          replace hb10 := k86.heap hb10 (hb11.offT hb10 (by decide))
          replace K := K.trans' k86 (fun i hi e => absurd hi (Nat.not_lt.2 (ol12 i e)))
          clear hb11
          refine WL.op (d := 8) (.slice A82 ((txs ++ [GOp.enc (nearOp r17)]).length) c83) (k := ?_)
          refine WL.nil ?_
          refine WX.blockN ?_
          refine WX.seqN ?_
          refine WC.region ?_
          refine WL.op (d := 27) (.int .i64 i) (k := ?_)
          refine WL.opE (d := 28) (.int .i64 (IntKind.i64.wrap (i + 1))) (v := .int .i64 (i + 1)) (congrArg (Value.int .i64) (IntWalk.i64_in _ (by omega))) (k := ?_)
          refine WL.op (d := 9) (.int .i64 (i + 1)) (k := ?_)
          refine WL.nil ?_
          refine WX.round (i + 1, txs ++ [GOp.enc (nearOp r17)], A82, c83) (by show (m.length - (i + 1)).toNat < (m.length - i).toNat; omega) ⟨(by kernel_rfl), (by kernel_rfl), (by kernel_rfl), (by kernel_rfl), (by kernel_rfl), (by kernel_rfl), (by kernel_rfl), (by kernel_rfl), (by kernel_rfl), trivial⟩ ⟨K, hb10, ho85, ol88, (by omega), (by omega), (by omega), (by simp; omega), (fun s h => by rw [List.mem_append, List.mem_singleton] at h; rcases h with h | rfl; exact txm s h; first | exact Nat.zero_le _ | omega | (simp; omega))⟩
      · have ph23 := of_decide_eq_false h23
        refine WL.callG (d := 35) (f := 31) (args := #[GOp.val (nearOp r17)]) (u13Bytes_no (nearOp r17) ph23 w21) (k := fun e_ w89 h_ => ⟨.tuple #[.string ⟨#[]⟩, .int .i64 1], h_.1, ?_⟩)
        have k90 := h_.2; clear h_
        replace hb10 := k90.heap hb10 id
        replace hb11 := hb11.adds k90
        replace K := K.trans (k90.any _)
        refine WL.op (d := 29) (.tuple #[.string ⟨#[]⟩, .int .i64 1]) (k := ?_)
        refine WL.op (d := 36) (.string ⟨#[]⟩) (k := ?_)
        refine WL.op (d := 37) (.int .i64 1) (k := ?_)
        refine WL.op (d := 10) (.string ⟨#[]⟩) (k := ?_)
        refine WL.op (d := 11) (.int .i64 1) (k := ?_)
        refine WL.nil ?_
        refine WX.seqN ?_
        refine WC.seq ?_
        refine WC.seq ?_
        refine WC.region ?_
        refine WL.op (d := 38) (.int .i64 i) (k := ?_)
        refine WL.op (d := 39) (.pointer (some ⟨b1, 0, none⟩)) (k := ?_)
        refine WL.load (v := .int .i64 q0) (ld1 (T := 3) (i := 0) hb10) (k := ?_)
        refine WL.bin (d := 41) (v := .int .i64 (bits BinOp.and IntKind.i64 q0 15)) (bits_run (by decide)) (k := ?_)
        refine WL.op (d := 42) (.bool (i == (bits BinOp.and IntKind.i64 q0 15))) (k := ?_)
        refine WL.op (d := 43) (.bool (i == (bits BinOp.and IntKind.i64 q0 15))) (k := ?_)
        refine bsplit (i == (bits BinOp.and IntKind.i64 q0 15)) (fun h91 => ?_) (fun h91 => ?_)
        · have ph91 := eq_of_beq h91
          refine WL.rw (t := 43) (v := .bool true) (congrArg Value.bool h91) (k := ?_)
          refine WL.op (d := 44) (.string ⟨#[]⟩) (k := ?_)
          refine WL.op (d := 45) (.int .i64 0) (k := ?_)
          refine WL.op (d := 46) (.bool false) (k := ?_)
          refine WL.op (d := 47) (.bool false) (k := ?_)
          refine WL.nil ?_
          refine WX.seqN ?_
          refine WC.condF (k := ?_)
          refine WC.skip ?_
          refine WX.seqN ?_
          refine WC.region ?_
          refine WL.op (d := 67) (.slice Bo txs.length bo) (k := ?_)
          refine WL.op (d := 68) (.string ⟨#[]⟩) (k := ?_)
          refine WL.newF (d := 69) (T := 9) #[.string ⟨#[]⟩] (fun b => .slice (some ⟨b, 0, none⟩) 1 1) (k := fun b92 w93 g94 hb95 k96 => ?_)
          have z97 := Nat.le_trans K.size g94
          have n98 : b1 ≠ b92 := Nat.ne_of_lt (Nat.lt_of_lt_of_le (lt_of_heap hb10) g94)
          replace hb10 := k96.heap hb10 id
          replace hb11 := hb11.adds k96
          replace K := K.trans (k96.any _)
          refine WL.append (d := 70) (T := 57) (cl := strC) (xs := txs) (ys := [[]]) (c := 1) ekStr hb11 (SlAt.of_lit (ys := [[]]) ekStr hb95 (by kernel_rfl)) (by simp; omega) (k := fun A99 c100 w101 ho102 k103 n104 => ?_)
          have ol105 := olink_step ol12 K n104
          replace hb10 := k103.heap hb10 (hb11.offT hb10 (by decide))
          replace K := K.trans' k103 (fun i hi e => absurd hi (Nat.not_lt.2 (ol12 i e)))
          clear hb11
          refine WL.op (d := 8) (.slice A99 ((txs ++ [[]]).length) c100) (k := ?_)
          refine WL.nil ?_
          refine WX.blockN ?_
          refine WX.seqN ?_
          refine WC.region ?_
          refine WL.op (d := 27) (.int .i64 i) (k := ?_)
          refine WL.opE (d := 28) (.int .i64 (IntKind.i64.wrap (i + 1))) (v := .int .i64 (i + 1)) (congrArg (Value.int .i64) (IntWalk.i64_in _ (by omega))) (k := ?_)
          refine WL.op (d := 9) (.int .i64 (i + 1)) (k := ?_)
          refine WL.nil ?_
          refine WX.round (i + 1, txs ++ [[]], A99, c100) (by show (m.length - (i + 1)).toNat < (m.length - i).toNat; omega) ⟨(by kernel_rfl), (by kernel_rfl), (by kernel_rfl), (by kernel_rfl), (by kernel_rfl), (by kernel_rfl), (by kernel_rfl), (by kernel_rfl), (by kernel_rfl), trivial⟩ ⟨K, hb10, ho102, ol105, (by omega), (by omega), (by omega), (by simp; omega), (fun s h => by rw [List.mem_append, List.mem_singleton] at h; rcases h with h | rfl; exact txm s h; first | exact Nat.zero_le _ | omega | (simp; omega))⟩
        · have ph91 := ne_of_beq_false h91
          refine WL.rw (t := 43) (v := .bool false) (congrArg Value.bool h91) (k := ?_)
          refine WL.skip (d := 44) (k := ?_)
          refine WL.skip (d := 45) (k := ?_)
          refine WL.skip (d := 46) (k := ?_)
          refine WL.op (d := 47) (.bool false) (k := ?_)
          refine WL.nil ?_
          refine WX.seqN ?_
          refine WC.condF (k := ?_)
          refine WC.skip ?_
          refine WX.seqN ?_
          refine WC.region ?_
          refine WL.op (d := 67) (.slice Bo txs.length bo) (k := ?_)
          refine WL.op (d := 68) (.string ⟨#[]⟩) (k := ?_)
          refine WL.newF (d := 69) (T := 9) #[.string ⟨#[]⟩] (fun b => .slice (some ⟨b, 0, none⟩) 1 1) (k := fun b106 w107 g108 hb109 k110 => ?_)
          have z111 := Nat.le_trans K.size g108
          have n112 : b1 ≠ b106 := Nat.ne_of_lt (Nat.lt_of_lt_of_le (lt_of_heap hb10) g108)
          replace hb10 := k110.heap hb10 id
          replace hb11 := hb11.adds k110
          replace K := K.trans (k110.any _)
          refine WL.append (d := 70) (T := 57) (cl := strC) (xs := txs) (ys := [[]]) (c := 1) ekStr hb11 (SlAt.of_lit (ys := [[]]) ekStr hb109 (by kernel_rfl)) (by simp; omega) (k := fun A113 c114 w115 ho116 k117 n118 => ?_)
          have ol119 := olink_step ol12 K n118
          replace hb10 := k117.heap hb10 (hb11.offT hb10 (by decide))
          replace K := K.trans' k117 (fun i hi e => absurd hi (Nat.not_lt.2 (ol12 i e)))
          clear hb11
          refine WL.op (d := 8) (.slice A113 ((txs ++ [[]]).length) c114) (k := ?_)
          refine WL.nil ?_
          refine WX.blockN ?_
          refine WX.seqN ?_
          refine WC.region ?_
          refine WL.op (d := 27) (.int .i64 i) (k := ?_)
          refine WL.opE (d := 28) (.int .i64 (IntKind.i64.wrap (i + 1))) (v := .int .i64 (i + 1)) (congrArg (Value.int .i64) (IntWalk.i64_in _ (by omega))) (k := ?_)
          refine WL.op (d := 9) (.int .i64 (i + 1)) (k := ?_)
          refine WL.nil ?_
          refine WX.round (i + 1, txs ++ [[]], A113, c114) (by show (m.length - (i + 1)).toNat < (m.length - i).toNat; omega) ⟨(by kernel_rfl), (by kernel_rfl), (by kernel_rfl), (by kernel_rfl), (by kernel_rfl), (by kernel_rfl), (by kernel_rfl), (by kernel_rfl), (by kernel_rfl), trivial⟩ ⟨K, hb10, ho116, ol119, (by omega), (by omega), (by omega), (by simp; omega), (fun s h => by rw [List.mem_append, List.mem_singleton] at h; rcases h with h | rfl; exact txm s h; first | exact Nat.zero_le _ | omega | (simp; omega))⟩
    · have ph14 := of_decide_eq_false h14
      refine WC.exit ?_
      refine WX.seqE ?_
      refine WX.seqE ?_
      refine WX.blockE ?_
      refine WX.seqN ?_
      refine WC.seq ?_
      refine WC.region ?_
      refine WL.op (d := 72) (.slice L l.length lc) (k := ?_)
      refine WL.callG (d := 73) (f := 18) (args := #[.slice L l.length lc]) (l14made_c (lc := lc) (hL.adds K) (by omega)) (k := fun e_ w120 h_ => ?_)
      obtain ⟨A121, c122, rfl, ho123, k124, ol125⟩ := h_
      refine ⟨_, rfl, ?_⟩
      have ol126 := fun i h => Nat.le_trans K.size (ol125 i h)
      replace hb10 := k124.heap hb10 id
      replace hb11 := hb11.adds k124
      replace K := K.trans (k124.any _)
      clear ol125
      have ml127 := madeT_len l
      refine WL.op (d := 74) (.slice Bo txs.length bo) (k := ?_)
      have oc128 := SlAt.cell ho123
      refine WL.callG (d := 75) (f := 32) (args := #[.agg #[.slice A121 (((madeT l).rows).length) c122, .int .i64 ((madeT l).mode)], .slice Bo txs.length bo]) (tReplay_c (cp := c122) (md := (madeT l).mode) (lc := bo) (ho123.sl ekRow) (by omega) (by omega) (hb11.sl ekStr) (by omega) (fun s h => Nat.le_trans (txm s h) (by decide))) (k := fun e_ w129 h_ => ?_)
      obtain ⟨A130, c131, rfl, hs132, k133⟩ := h_
      refine ⟨_, rfl, ?_⟩
      replace hb10 := k133.heap hb10 id
      replace hb11 := hb11.adds k133
      replace ho123 := ho123.adds k133
      replace K := K.trans (k133.any _)
      have rl135 := replay_len txs (⟨(madeT l).rows, ((madeT l).mode)⟩ : GTable) (madeT_len _)
      refine WL.op (d := 71) (.tuple #[.agg #[.slice A130 (((replayT (⟨(madeT l).rows, ((madeT l).mode)⟩ : GTable) txs).1.rows).length) c131, .int .i64 ((replayT (⟨(madeT l).rows, ((madeT l).mode)⟩ : GTable) txs).1.mode)], .int .i64 ((replayT (⟨(madeT l).rows, ((madeT l).mode)⟩ : GTable) txs).2 : Int)]) (k := ?_)
      refine WL.op (d := 76) (.agg #[.slice A130 (((replayT (⟨(madeT l).rows, ((madeT l).mode)⟩ : GTable) txs).1.rows).length) c131, .int .i64 ((replayT (⟨(madeT l).rows, ((madeT l).mode)⟩ : GTable) txs).1.mode)]) (k := ?_)
      refine WL.op (d := 77) (.int .i64 ((replayT (⟨(madeT l).rows, ((madeT l).mode)⟩ : GTable) txs).2 : Int)) (k := ?_)
      refine WL.new (d := 13) (T := 24) #[.slice none 0 0, .int .i64 0] (k := fun b136 w137 g138 hb139 k140 => ?_)
      have z141 := Nat.le_trans K.size g138
      have n142 : b1 ≠ b136 := Nat.ne_of_lt (Nat.lt_of_lt_of_le (lt_of_heap hb10) g138)
      have n143 := SlAt.off_new hs132 g138
      replace hb10 := k140.heap hb10 id
      replace hb11 := hb11.adds k140
      replace ho123 := ho123.adds k140
      replace hs132 := hs132.adds k140
      replace K := K.trans (k140.any _)
      refine WL.store (v := .agg #[.slice A130 (((replayT (⟨(madeT l).rows, ((madeT l).mode)⟩ : GTable) txs).1.rows).length) c131, .int .i64 ((replayT (⟨(madeT l).rows, ((madeT l).mode)⟩ : GTable) txs).1.mode)]) (i := 0) (cs' := #[.slice A130 (((replayT (⟨(madeT l).rows, ((madeT l).mode)⟩ : GTable) txs).1.rows).length) c131, .int .i64 ((replayT (⟨(madeT l).rows, ((madeT l).mode)⟩ : GTable) txs).1.mode)]) hb139 (k := fun w144 hb145 k146 => ?_)
      replace hb10 := k146.heap hb10 n142
      replace hb11 := hb11.keeps k146 (fun i hi e => (hb11.offT hb139 (by decide)) (e ▸ hi))
      replace ho123 := ho123.keeps k146 (fun i hi e => (ho123.offT hb139 (by decide)) (e ▸ hi))
      replace hs132 := hs132.keeps k146 n143
      replace K := K.trans' k146 (fun i hi e => absurd (e ▸ hi) (Nat.not_lt.2 z141))
      clear hb139
      refine WL.op (d := 14) (.int .i64 ((replayT (⟨(madeT l).rows, ((madeT l).mode)⟩ : GTable) txs).2 : Int)) (k := ?_)
      refine WL.nil ?_
      refine WX.seqN ?_
      refine WC.seq ?_
      refine WC.region ?_
      refine WL.op (d := 79) (.slice L l.length lc) (k := ?_)
      refine WL.callG (d := 80) (f := 18) (args := #[.slice L l.length lc]) (l14made_c (lc := lc) (hL.adds K) (by omega)) (k := fun e_ w147 h_ => ?_)
      obtain ⟨A148, c149, rfl, ho150, k151, ol152⟩ := h_
      refine ⟨_, rfl, ?_⟩
      have ol153 := fun i h => Nat.le_trans K.size (ol152 i h)
      replace hb10 := k151.heap hb10 id
      replace hb11 := hb11.adds k151
      replace ho123 := ho123.adds k151
      replace hs132 := hs132.adds k151
      replace hb145 := k151.heap hb145 id
      replace K := K.trans (k151.any _)
      clear ol152
      have ml154 := madeT_len l
      refine WL.op (d := 81) (.slice Bo txs.length bo) (k := ?_)
      have oc155 := SlAt.cell ho150
      refine WL.callG (d := 82) (f := 33) (args := #[.agg #[.slice A148 (((madeT l).rows).length) c149, .int .i64 ((madeT l).mode)], .slice Bo txs.length bo]) (u14Replay_c (cp := c149) (md := (madeT l).mode) (lc := bo) (ho150.sl ekRow) (by omega) (by omega) (hb11.sl ekStr) (by omega) (fun s h => Nat.le_trans (txm s h) (by decide))) (k := fun e_ w156 h_ => ?_)
      obtain ⟨A157, c158, rfl, hs159, k160⟩ := h_
      refine ⟨_, rfl, ?_⟩
      replace hb10 := k160.heap hb10 id
      replace hb11 := hb11.adds k160
      replace ho123 := ho123.adds k160
      replace hs132 := hs132.adds k160
      replace hb145 := k160.heap hb145 id
      replace ho150 := ho150.adds k160
      replace K := K.trans (k160.any _)
      have rl162 := replay_len txs (⟨(madeT l).rows, ((madeT l).mode)⟩ : GTable) (madeT_len _)
      refine WL.op (d := 78) (.tuple #[.agg #[.slice A157 (((replayT (⟨(madeT l).rows, ((madeT l).mode)⟩ : GTable) txs).1.rows).length) c158, .int .i64 ((replayT (⟨(madeT l).rows, ((madeT l).mode)⟩ : GTable) txs).1.mode)], .int .i64 ((replayT (⟨(madeT l).rows, ((madeT l).mode)⟩ : GTable) txs).2 : Int)]) (k := ?_)
      refine WL.op (d := 83) (.agg #[.slice A157 (((replayT (⟨(madeT l).rows, ((madeT l).mode)⟩ : GTable) txs).1.rows).length) c158, .int .i64 ((replayT (⟨(madeT l).rows, ((madeT l).mode)⟩ : GTable) txs).1.mode)]) (k := ?_)
      refine WL.op (d := 84) (.int .i64 ((replayT (⟨(madeT l).rows, ((madeT l).mode)⟩ : GTable) txs).2 : Int)) (k := ?_)
      refine WL.new (d := 15) (T := 24) #[.slice none 0 0, .int .i64 0] (k := fun b163 w164 g165 hb166 k167 => ?_)
      have z168 := Nat.le_trans K.size g165
      have n169 : b1 ≠ b163 := Nat.ne_of_lt (Nat.lt_of_lt_of_le (lt_of_heap hb10) g165)
      have n170 := SlAt.off_new hs132 g165
      have n171 : b136 ≠ b163 := Nat.ne_of_lt (Nat.lt_of_lt_of_le (lt_of_heap hb145) g165)
      have n172 := SlAt.off_new hs159 g165
      replace hb10 := k167.heap hb10 id
      replace hb11 := hb11.adds k167
      replace ho123 := ho123.adds k167
      replace hs132 := hs132.adds k167
      replace hb145 := k167.heap hb145 id
      replace ho150 := ho150.adds k167
      replace hs159 := hs159.adds k167
      replace K := K.trans (k167.any _)
      refine WL.store (v := .agg #[.slice A157 (((replayT (⟨(madeT l).rows, ((madeT l).mode)⟩ : GTable) txs).1.rows).length) c158, .int .i64 ((replayT (⟨(madeT l).rows, ((madeT l).mode)⟩ : GTable) txs).1.mode)]) (i := 0) (cs' := #[.slice A157 (((replayT (⟨(madeT l).rows, ((madeT l).mode)⟩ : GTable) txs).1.rows).length) c158, .int .i64 ((replayT (⟨(madeT l).rows, ((madeT l).mode)⟩ : GTable) txs).1.mode)]) hb166 (k := fun w173 hb174 k175 => ?_)
      replace hb10 := k175.heap hb10 n169
      replace hb11 := hb11.keeps k175 (fun i hi e => (hb11.offT hb166 (by decide)) (e ▸ hi))
      replace ho123 := ho123.keeps k175 (fun i hi e => (ho123.offT hb166 (by decide)) (e ▸ hi))
      replace hs132 := hs132.keeps k175 n170
      replace hb145 := k175.heap hb145 n171
      replace ho150 := ho150.keeps k175 (fun i hi e => (ho150.offT hb166 (by decide)) (e ▸ hi))
      replace hs159 := hs159.keeps k175 n172
      replace K := K.trans' k175 (fun i hi e => absurd (e ▸ hi) (Nat.not_lt.2 z168))
      clear hb166
      refine WL.op (d := 16) (.int .i64 ((replayT (⟨(madeT l).rows, ((madeT l).mode)⟩ : GTable) txs).2 : Int)) (k := ?_)
      refine WL.nil ?_
      refine WX.seqN ?_
      refine WC.seq ?_
      refine WC.region ?_
      refine WL.load (v := .agg #[.slice A130 (((replayT (⟨(madeT l).rows, ((madeT l).mode)⟩ : GTable) txs).1.rows).length) c131, .int .i64 ((replayT (⟨(madeT l).rows, ((madeT l).mode)⟩ : GTable) txs).1.mode)]) (ldN (T := 24) (i := 0) (m := 2) (l := [.slice A130 (((replayT (⟨(madeT l).rows, ((madeT l).mode)⟩ : GTable) txs).1.rows).length) c131, .int .i64 ((replayT (⟨(madeT l).rows, ((madeT l).mode)⟩ : GTable) txs).1.mode)]) hb145) (k := ?_)
      refine WL.load (v := .agg #[.slice A157 (((replayT (⟨(madeT l).rows, ((madeT l).mode)⟩ : GTable) txs).1.rows).length) c158, .int .i64 ((replayT (⟨(madeT l).rows, ((madeT l).mode)⟩ : GTable) txs).1.mode)]) (ldN (T := 24) (i := 0) (m := 2) (l := [.slice A157 (((replayT (⟨(madeT l).rows, ((madeT l).mode)⟩ : GTable) txs).1.rows).length) c158, .int .i64 ((replayT (⟨(madeT l).rows, ((madeT l).mode)⟩ : GTable) txs).1.mode)]) hb174) (k := ?_)
      refine WL.callG (d := 87) (f := 22) (args := #[.agg #[.slice A130 (((replayT (⟨(madeT l).rows, ((madeT l).mode)⟩ : GTable) txs).1.rows).length) c131, .int .i64 ((replayT (⟨(madeT l).rows, ((madeT l).mode)⟩ : GTable) txs).1.mode)], .agg #[.slice A157 (((replayT (⟨(madeT l).rows, ((madeT l).mode)⟩ : GTable) txs).1.rows).length) c158, .int .i64 ((replayT (⟨(madeT l).rows, ((madeT l).mode)⟩ : GTable) txs).1.mode)]]) (u14Same_r (cp := c131) (cq := c158) (ma := (replayT (⟨(madeT l).rows, ((madeT l).mode)⟩ : GTable) txs).1.mode) hs132 hs159 (by first | omega | (simp; omega))) (k := fun e_ w176 h_ => ⟨.bool true, h_.1, ?_⟩)
      have k177 := h_.2; clear h_
      replace hb10 := k177.heap hb10 id
      replace hb11 := hb11.adds k177
      replace ho123 := ho123.adds k177
      replace hs132 := hs132.adds k177
      replace hb145 := k177.heap hb145 id
      replace ho150 := ho150.adds k177
      replace hs159 := hs159.adds k177
      replace hb174 := k177.heap hb174 id
      replace K := K.trans (k177.any _)
      refine WL.op (d := 17) (.bool true) (k := ?_)
      refine WL.nil ?_
      refine WX.seqN ?_
      refine WC.seq ?_
      refine WC.region ?_
      refine WL.op (d := 88) (.bool true) (k := ?_)
      refine WL.op (d := 89) (.bool true) (k := ?_)
      refine WL.op (d := 90) (.bool true) (k := ?_)
      refine WL.op (d := 91) (.bool true) (k := ?_)
      refine WL.op (d := 92) (.bool true) (k := ?_)
      refine WL.op (d := 93) (.int .i64 ((replayT (⟨(madeT l).rows, ((madeT l).mode)⟩ : GTable) txs).2 : Int)) (k := ?_)
      refine WL.op (d := 94) (.int .i64 ((replayT (⟨(madeT l).rows, ((madeT l).mode)⟩ : GTable) txs).2 : Int)) (k := ?_)
      refine WL.opE (d := 95) (.bool (((replayT (⟨(madeT l).rows, ((madeT l).mode)⟩ : GTable) txs).2 : Int) == ((replayT (⟨(madeT l).rows, ((madeT l).mode)⟩ : GTable) txs).2 : Int))) (v := .bool true) (congrArg Value.bool (beq_self_eq_true _)) (k := ?_)
      refine WL.op (d := 96) (.bool true) (k := ?_)
      refine WL.op (d := 6) (.bool true) (k := ?_)
      refine WL.nil ?_
      refine WX.seqN ?_
      refine WC.ret ?_
      refine WX.ret (rs := [.tmp 6]) [.bool true] (.bool true) ⟨(by kernel_rfl), trivial⟩ (k := ?_)
      exact ⟨rfl, K⟩
  · have ph13 := of_decide_eq_false h13
    refine WL.rw (t := 23) (v := .bool false) (congrArg Value.bool h13) (k := ?_)
    refine WL.skip (d := 24) (k := ?_)
    refine WL.skip (d := 25) (k := ?_)
    refine WL.op (d := 26) (.bool false) (k := ?_)
    refine WL.nil ?_
    refine WX.seqN ?_
    refine WC.condF (k := ?_)
    refine WC.exit ?_
    refine WX.seqE ?_
    refine WX.seqE ?_
    refine WX.blockE ?_
    refine WX.seqN ?_
    refine WC.seq ?_
    refine WC.region ?_
    refine WL.op (d := 72) (.slice L l.length lc) (k := ?_)
    refine WL.callG (d := 73) (f := 18) (args := #[.slice L l.length lc]) (l14made_c (lc := lc) (hL.adds K) (by omega)) (k := fun e_ w178 h_ => ?_)
    obtain ⟨A179, c180, rfl, ho181, k182, ol183⟩ := h_
    refine ⟨_, rfl, ?_⟩
    have ol184 := fun i h => Nat.le_trans K.size (ol183 i h)
    replace hb10 := k182.heap hb10 id
    replace hb11 := hb11.adds k182
    replace K := K.trans (k182.any _)
    clear ol183
    have ml185 := madeT_len l
    refine WL.op (d := 74) (.slice Bo txs.length bo) (k := ?_)
    have oc186 := SlAt.cell ho181
    refine WL.callG (d := 75) (f := 32) (args := #[.agg #[.slice A179 (((madeT l).rows).length) c180, .int .i64 ((madeT l).mode)], .slice Bo txs.length bo]) (tReplay_c (cp := c180) (md := (madeT l).mode) (lc := bo) (ho181.sl ekRow) (by omega) (by omega) (hb11.sl ekStr) (by omega) (fun s h => Nat.le_trans (txm s h) (by decide))) (k := fun e_ w187 h_ => ?_)
    obtain ⟨A188, c189, rfl, hs190, k191⟩ := h_
    refine ⟨_, rfl, ?_⟩
    replace hb10 := k191.heap hb10 id
    replace hb11 := hb11.adds k191
    replace ho181 := ho181.adds k191
    replace K := K.trans (k191.any _)
    have rl193 := replay_len txs (⟨(madeT l).rows, ((madeT l).mode)⟩ : GTable) (madeT_len _)
    refine WL.op (d := 71) (.tuple #[.agg #[.slice A188 (((replayT (⟨(madeT l).rows, ((madeT l).mode)⟩ : GTable) txs).1.rows).length) c189, .int .i64 ((replayT (⟨(madeT l).rows, ((madeT l).mode)⟩ : GTable) txs).1.mode)], .int .i64 ((replayT (⟨(madeT l).rows, ((madeT l).mode)⟩ : GTable) txs).2 : Int)]) (k := ?_)
    refine WL.op (d := 76) (.agg #[.slice A188 (((replayT (⟨(madeT l).rows, ((madeT l).mode)⟩ : GTable) txs).1.rows).length) c189, .int .i64 ((replayT (⟨(madeT l).rows, ((madeT l).mode)⟩ : GTable) txs).1.mode)]) (k := ?_)
    refine WL.op (d := 77) (.int .i64 ((replayT (⟨(madeT l).rows, ((madeT l).mode)⟩ : GTable) txs).2 : Int)) (k := ?_)
    refine WL.new (d := 13) (T := 24) #[.slice none 0 0, .int .i64 0] (k := fun b194 w195 g196 hb197 k198 => ?_)
    have z199 := Nat.le_trans K.size g196
    have n200 : b1 ≠ b194 := Nat.ne_of_lt (Nat.lt_of_lt_of_le (lt_of_heap hb10) g196)
    have n201 := SlAt.off_new hs190 g196
    replace hb10 := k198.heap hb10 id
    replace hb11 := hb11.adds k198
    replace ho181 := ho181.adds k198
    replace hs190 := hs190.adds k198
    replace K := K.trans (k198.any _)
    refine WL.store (v := .agg #[.slice A188 (((replayT (⟨(madeT l).rows, ((madeT l).mode)⟩ : GTable) txs).1.rows).length) c189, .int .i64 ((replayT (⟨(madeT l).rows, ((madeT l).mode)⟩ : GTable) txs).1.mode)]) (i := 0) (cs' := #[.slice A188 (((replayT (⟨(madeT l).rows, ((madeT l).mode)⟩ : GTable) txs).1.rows).length) c189, .int .i64 ((replayT (⟨(madeT l).rows, ((madeT l).mode)⟩ : GTable) txs).1.mode)]) hb197 (k := fun w202 hb203 k204 => ?_)
    replace hb10 := k204.heap hb10 n200
    replace hb11 := hb11.keeps k204 (fun i hi e => (hb11.offT hb197 (by decide)) (e ▸ hi))
    replace ho181 := ho181.keeps k204 (fun i hi e => (ho181.offT hb197 (by decide)) (e ▸ hi))
    replace hs190 := hs190.keeps k204 n201
    replace K := K.trans' k204 (fun i hi e => absurd (e ▸ hi) (Nat.not_lt.2 z199))
    clear hb197
    refine WL.op (d := 14) (.int .i64 ((replayT (⟨(madeT l).rows, ((madeT l).mode)⟩ : GTable) txs).2 : Int)) (k := ?_)
    refine WL.nil ?_
    refine WX.seqN ?_
    refine WC.seq ?_
    refine WC.region ?_
    refine WL.op (d := 79) (.slice L l.length lc) (k := ?_)
    refine WL.callG (d := 80) (f := 18) (args := #[.slice L l.length lc]) (l14made_c (lc := lc) (hL.adds K) (by omega)) (k := fun e_ w205 h_ => ?_)
    obtain ⟨A206, c207, rfl, ho208, k209, ol210⟩ := h_
    refine ⟨_, rfl, ?_⟩
    have ol211 := fun i h => Nat.le_trans K.size (ol210 i h)
    replace hb10 := k209.heap hb10 id
    replace hb11 := hb11.adds k209
    replace ho181 := ho181.adds k209
    replace hs190 := hs190.adds k209
    replace hb203 := k209.heap hb203 id
    replace K := K.trans (k209.any _)
    clear ol210
    have ml212 := madeT_len l
    refine WL.op (d := 81) (.slice Bo txs.length bo) (k := ?_)
    have oc213 := SlAt.cell ho208
    refine WL.callG (d := 82) (f := 33) (args := #[.agg #[.slice A206 (((madeT l).rows).length) c207, .int .i64 ((madeT l).mode)], .slice Bo txs.length bo]) (u14Replay_c (cp := c207) (md := (madeT l).mode) (lc := bo) (ho208.sl ekRow) (by omega) (by omega) (hb11.sl ekStr) (by omega) (fun s h => Nat.le_trans (txm s h) (by decide))) (k := fun e_ w214 h_ => ?_)
    obtain ⟨A215, c216, rfl, hs217, k218⟩ := h_
    refine ⟨_, rfl, ?_⟩
    replace hb10 := k218.heap hb10 id
    replace hb11 := hb11.adds k218
    replace ho181 := ho181.adds k218
    replace hs190 := hs190.adds k218
    replace hb203 := k218.heap hb203 id
    replace ho208 := ho208.adds k218
    replace K := K.trans (k218.any _)
    have rl220 := replay_len txs (⟨(madeT l).rows, ((madeT l).mode)⟩ : GTable) (madeT_len _)
    refine WL.op (d := 78) (.tuple #[.agg #[.slice A215 (((replayT (⟨(madeT l).rows, ((madeT l).mode)⟩ : GTable) txs).1.rows).length) c216, .int .i64 ((replayT (⟨(madeT l).rows, ((madeT l).mode)⟩ : GTable) txs).1.mode)], .int .i64 ((replayT (⟨(madeT l).rows, ((madeT l).mode)⟩ : GTable) txs).2 : Int)]) (k := ?_)
    refine WL.op (d := 83) (.agg #[.slice A215 (((replayT (⟨(madeT l).rows, ((madeT l).mode)⟩ : GTable) txs).1.rows).length) c216, .int .i64 ((replayT (⟨(madeT l).rows, ((madeT l).mode)⟩ : GTable) txs).1.mode)]) (k := ?_)
    refine WL.op (d := 84) (.int .i64 ((replayT (⟨(madeT l).rows, ((madeT l).mode)⟩ : GTable) txs).2 : Int)) (k := ?_)
    refine WL.new (d := 15) (T := 24) #[.slice none 0 0, .int .i64 0] (k := fun b221 w222 g223 hb224 k225 => ?_)
    have z226 := Nat.le_trans K.size g223
    have n227 : b1 ≠ b221 := Nat.ne_of_lt (Nat.lt_of_lt_of_le (lt_of_heap hb10) g223)
    have n228 := SlAt.off_new hs190 g223
    have n229 : b194 ≠ b221 := Nat.ne_of_lt (Nat.lt_of_lt_of_le (lt_of_heap hb203) g223)
    have n230 := SlAt.off_new hs217 g223
    replace hb10 := k225.heap hb10 id
    replace hb11 := hb11.adds k225
    replace ho181 := ho181.adds k225
    replace hs190 := hs190.adds k225
    replace hb203 := k225.heap hb203 id
    replace ho208 := ho208.adds k225
    replace hs217 := hs217.adds k225
    replace K := K.trans (k225.any _)
    refine WL.store (v := .agg #[.slice A215 (((replayT (⟨(madeT l).rows, ((madeT l).mode)⟩ : GTable) txs).1.rows).length) c216, .int .i64 ((replayT (⟨(madeT l).rows, ((madeT l).mode)⟩ : GTable) txs).1.mode)]) (i := 0) (cs' := #[.slice A215 (((replayT (⟨(madeT l).rows, ((madeT l).mode)⟩ : GTable) txs).1.rows).length) c216, .int .i64 ((replayT (⟨(madeT l).rows, ((madeT l).mode)⟩ : GTable) txs).1.mode)]) hb224 (k := fun w231 hb232 k233 => ?_)
    replace hb10 := k233.heap hb10 n227
    replace hb11 := hb11.keeps k233 (fun i hi e => (hb11.offT hb224 (by decide)) (e ▸ hi))
    replace ho181 := ho181.keeps k233 (fun i hi e => (ho181.offT hb224 (by decide)) (e ▸ hi))
    replace hs190 := hs190.keeps k233 n228
    replace hb203 := k233.heap hb203 n229
    replace ho208 := ho208.keeps k233 (fun i hi e => (ho208.offT hb224 (by decide)) (e ▸ hi))
    replace hs217 := hs217.keeps k233 n230
    replace K := K.trans' k233 (fun i hi e => absurd (e ▸ hi) (Nat.not_lt.2 z226))
    clear hb224
    refine WL.op (d := 16) (.int .i64 ((replayT (⟨(madeT l).rows, ((madeT l).mode)⟩ : GTable) txs).2 : Int)) (k := ?_)
    refine WL.nil ?_
    refine WX.seqN ?_
    refine WC.seq ?_
    refine WC.region ?_
    refine WL.load (v := .agg #[.slice A188 (((replayT (⟨(madeT l).rows, ((madeT l).mode)⟩ : GTable) txs).1.rows).length) c189, .int .i64 ((replayT (⟨(madeT l).rows, ((madeT l).mode)⟩ : GTable) txs).1.mode)]) (ldN (T := 24) (i := 0) (m := 2) (l := [.slice A188 (((replayT (⟨(madeT l).rows, ((madeT l).mode)⟩ : GTable) txs).1.rows).length) c189, .int .i64 ((replayT (⟨(madeT l).rows, ((madeT l).mode)⟩ : GTable) txs).1.mode)]) hb203) (k := ?_)
    refine WL.load (v := .agg #[.slice A215 (((replayT (⟨(madeT l).rows, ((madeT l).mode)⟩ : GTable) txs).1.rows).length) c216, .int .i64 ((replayT (⟨(madeT l).rows, ((madeT l).mode)⟩ : GTable) txs).1.mode)]) (ldN (T := 24) (i := 0) (m := 2) (l := [.slice A215 (((replayT (⟨(madeT l).rows, ((madeT l).mode)⟩ : GTable) txs).1.rows).length) c216, .int .i64 ((replayT (⟨(madeT l).rows, ((madeT l).mode)⟩ : GTable) txs).1.mode)]) hb232) (k := ?_)
    refine WL.callG (d := 87) (f := 22) (args := #[.agg #[.slice A188 (((replayT (⟨(madeT l).rows, ((madeT l).mode)⟩ : GTable) txs).1.rows).length) c189, .int .i64 ((replayT (⟨(madeT l).rows, ((madeT l).mode)⟩ : GTable) txs).1.mode)], .agg #[.slice A215 (((replayT (⟨(madeT l).rows, ((madeT l).mode)⟩ : GTable) txs).1.rows).length) c216, .int .i64 ((replayT (⟨(madeT l).rows, ((madeT l).mode)⟩ : GTable) txs).1.mode)]]) (u14Same_r (cp := c189) (cq := c216) (ma := (replayT (⟨(madeT l).rows, ((madeT l).mode)⟩ : GTable) txs).1.mode) hs190 hs217 (by first | omega | (simp; omega))) (k := fun e_ w234 h_ => ⟨.bool true, h_.1, ?_⟩)
    have k235 := h_.2; clear h_
    replace hb10 := k235.heap hb10 id
    replace hb11 := hb11.adds k235
    replace ho181 := ho181.adds k235
    replace hs190 := hs190.adds k235
    replace hb203 := k235.heap hb203 id
    replace ho208 := ho208.adds k235
    replace hs217 := hs217.adds k235
    replace hb232 := k235.heap hb232 id
    replace K := K.trans (k235.any _)
    refine WL.op (d := 17) (.bool true) (k := ?_)
    refine WL.nil ?_
    refine WX.seqN ?_
    refine WC.seq ?_
    refine WC.region ?_
    refine WL.op (d := 88) (.bool true) (k := ?_)
    refine WL.op (d := 89) (.bool true) (k := ?_)
    refine WL.op (d := 90) (.bool true) (k := ?_)
    refine WL.op (d := 91) (.bool true) (k := ?_)
    refine WL.op (d := 92) (.bool true) (k := ?_)
    refine WL.op (d := 93) (.int .i64 ((replayT (⟨(madeT l).rows, ((madeT l).mode)⟩ : GTable) txs).2 : Int)) (k := ?_)
    refine WL.op (d := 94) (.int .i64 ((replayT (⟨(madeT l).rows, ((madeT l).mode)⟩ : GTable) txs).2 : Int)) (k := ?_)
    refine WL.opE (d := 95) (.bool (((replayT (⟨(madeT l).rows, ((madeT l).mode)⟩ : GTable) txs).2 : Int) == ((replayT (⟨(madeT l).rows, ((madeT l).mode)⟩ : GTable) txs).2 : Int))) (v := .bool true) (congrArg Value.bool (beq_self_eq_true _)) (k := ?_)
    refine WL.op (d := 96) (.bool true) (k := ?_)
    refine WL.op (d := 6) (.bool true) (k := ?_)
    refine WL.nil ?_
    refine WX.seqN ?_
    refine WC.ret ?_
    refine WX.ret (rs := [.tmp 6]) [.bool true] (.bool true) ⟨(by kernel_rfl), trivial⟩ (k := ?_)
    exact ⟨rfl, K⟩

set_option maxRecDepth 100000 in
set_option maxHeartbeats 4000000 in
theorem tableReplay_any {L : Option Addr} {lc : Nat} {l : List GOp} {w : World} (hL : SlAt opC 10 46 L l w) (hl : l.length ≤ 9223372036854775807) : Calls Try.prog 9 #[.slice L l.length lc] w fun e w' => e = .returned (.bool true) ∧ Adds w w' := by
  have K : Keeps (fun _ => False) w w := Keeps.refl _ w
  refine Calls.start Try.func9 rfl (by kernel_rfl) ?_
  refine WC.seq ?_
  refine WC.region ?_
  refine WL.op (d := 2) (.bool false) (k := ?_)
  refine WL.nil ?_
  refine WX.seqN ?_
  refine WC.seq ?_
  refine WC.region ?_
  refine WL.callG (d := 14) (f := 16) (args := #[]) (l14awake_c w) (k := fun e_ w1 h_ => ⟨.bool true, h_.1, ?_⟩)
  have k2 := h_.2; clear h_
  replace K := K.trans (k2.any _)
  refine WL.op (d := 3) (.bool true) (k := ?_)
  refine WL.nil ?_
  refine WX.seqN ?_
  refine WC.seq ?_
  refine WC.region ?_
  refine WL.op (d := 15) (.agg #[.slice none 0 0, .int .i64 0]) (k := ?_)
  refine WL.new (d := 4) (T := 24) #[.slice none 0 0, .int .i64 0] (k := fun b3 w4 g5 hb6 k7 => ?_)
  have z8 := Nat.le_trans K.size g5
  replace K := K.trans (k7.any _)
  refine WL.store (v := .agg #[.slice none 0 0, .int .i64 0]) (i := 0) (cs' := #[.slice none 0 0, .int .i64 0]) hb6 (k := fun w9 hb10 k11 => ?_)
  replace K := K.trans' k11 (fun i hi e => absurd (e ▸ hi) (Nat.not_lt.2 z8))
  clear hb6
  refine WL.nil ?_
  refine WX.seqN ?_
  refine WC.seq ?_
  refine WC.region ?_
  refine WL.op (d := 5) (.slice none 0 0) (k := ?_)
  refine WL.nil ?_
  refine WX.seqN ?_
  refine WC.seq ?_
  refine WC.seq ?_
  refine WC.region ?_
  refine WL.op (d := 6) (.int .i64 0) (k := ?_)
  refine WL.nil ?_
  refine WX.seqN ?_
  refine WC.block ?_
  refine WC.loop (ι := Int × (List (List UInt8)) × (Option Addr) × Nat × GTable × (Option Addr) × Nat) (fun (⟨i, txs, Bo, bo, ti, Ao, co⟩ : Int × (List (List UInt8)) × (Option Addr) × Nat × GTable × (Option Addr) × Nat) => [(0, .slice L l.length lc), (2, .bool false), (14, .bool true), (3, .bool true), (15, .agg #[.slice none 0 0, .int .i64 0]), (4, .pointer (some ⟨b3, 0, none⟩)), (6, .int .i64 i), (5, .slice Bo txs.length bo)]) (fun (⟨i, txs, Bo, bo, ti, Ao, co⟩ : Int × (List (List UInt8)) × (Option Addr) × Nat × GTable × (Option Addr) × Nat) (w_ : World) => (Keeps (fun _ => False) w w_) ∧ (w_.heap[b3]? = some (.cells #[.slice Ao ti.rows.length co, .int .i64 ti.mode] 24 (0, 0))) ∧ (OwAt strC 1 9 Bo bo txs w_) ∧ (∀ i, blk Bo = some i → w.heap.size ≤ i) ∧ (OwAt rowC 6 53 Ao co ti.rows w_) ∧ (∀ i, blk Ao = some i → w.heap.size ≤ i) ∧ (0 ≤ i) ∧ (i ≤ l.length) ∧ (i ≤ 20) ∧ (txs.length ≤ i) ∧ (∀ s ∈ txs, s.length ≤ 100) ∧ (ti.ok) ∧ (replayT GTable.zero txs = (ti, txs.length))) (fun (⟨i, txs, Bo, bo, ti, Ao, co⟩ : Int × (List (List UInt8)) × (Option Addr) × Nat × GTable × (Option Addr) × Nat) => (l.length - i).toNat) (0, [], none, 0, GTable.zero, none, 0) ⟨(by kernel_rfl), (by kernel_rfl), (by kernel_rfl), (by kernel_rfl), (by kernel_rfl), (by kernel_rfl), (by kernel_rfl), (by kernel_rfl), trivial⟩ ⟨K, hb10, OwAt.nil, (by simp [blk]), OwAt.nil, (by simp [blk]), Int.le_refl 0, (by omega), (by decide), (Int.le_refl _), (by simp), zero_ok, rfl⟩ ?_
  rintro ⟨i, txs, Bo, bo, ti, Ao, co⟩ w12 ⟨K, hb13, hb14, ol15, hb16, ol17, i0, i1, i2, txn, txm, hti, hrep⟩
  refine WC.seq ?_
  refine WC.seq ?_
  refine WC.region ?_
  refine WL.op (d := 16) (.int .i64 i) (k := ?_)
  refine WL.op (d := 17) (.slice L l.length lc) (k := ?_)
  refine WL.op (d := 18) (.int .i64 (l.length : Int)) (k := ?_)
  refine WL.op (d := 19) (.bool (decide (i < (l.length : Int)))) (k := ?_)
  refine WL.op (d := 20) (.bool (decide (i < (l.length : Int)))) (k := ?_)
  refine bsplit (decide (i < (l.length : Int))) (fun h18 => ?_) (fun h18 => ?_)
  · have ph18 := of_decide_eq_true h18
    refine WL.rw (t := 20) (v := .bool true) (congrArg Value.bool h18) (k := ?_)
    refine WL.op (d := 21) (.int .i64 i) (k := ?_)
    refine WL.op (d := 22) (.bool (decide (i < 20))) (k := ?_)
    refine WL.op (d := 23) (.bool (decide (i < 20))) (k := ?_)
    refine WL.nil ?_
    refine WX.seqN ?_
    refine WC.cond (b := decide (i < 20)) (ht := fun h19 => ?_) (hf := fun h19 => ?_)
    · have ph19 := of_decide_eq_true h19
      refine WC.skip ?_
      refine WX.seqN ?_
      refine WC.seq ?_
      refine WC.block ?_
      refine WC.seq ?_
      refine WC.region ?_
      refine WL.op (d := 26) (.slice L l.length lc) (k := ?_)
      refine WL.op (d := 27) (.int .i64 i) (k := ?_)
      obtain ⟨b20, o21, r22, hr23, hA24, he25⟩ := SlAt.at hL (i := i) (by omega) (by omega)
      refine WL.rw (t := 26) (v := .slice (some ⟨b20, o21, none⟩) l.length lc) (congrArg (fun a => Value.slice a l.length lc) hA24) (k := ?_)
      refine WL.idx (T := 25) (E := 46) (m := 10) (b := b20) (o := o21) (len := l.length) (cap := lc) (i := i) (kk := .i64) (d := 28) (by omega) (by omega) (k := ?_)
      refine WL.rw (t := 26) (v := .slice L l.length lc) (congrArg (fun a => Value.slice a l.length lc) (Eq.symm hA24)) (k := ?_)
      refine WL.load (v := GOp.val r22) ((he25.adds K).ldW (T := 46)) (k := ?_)
      refine WL.callG (d := 30) (f := 28) (args := #[GOp.val r22]) (l14near_c r22 w12) (k := fun e_ w26 h_ => ⟨GOp.val (nearOp r22), h_.1, ?_⟩)
      have k27 := h_.2; clear h_
      replace hb13 := k27.heap hb13 id
      replace hb14 := hb14.adds k27
      replace hb16 := hb16.adds k27
      replace K := K.trans (k27.any _)
      refine WL.new (d := 7) (T := 46) #[.int .i64 0, .int .i64 0, .int .i64 0, .int .i64 0, .int .i64 0, .int .i64 0, .bool false, .int .i64 0, .int .i64 0, .int .i64 0] (k := fun b28 w29 g30 hb31 k32 => ?_)
      have z33 := Nat.le_trans K.size g30
      have n34 : b3 ≠ b28 := Nat.ne_of_lt (Nat.lt_of_lt_of_le (lt_of_heap hb13) g30)
      replace hb13 := k32.heap hb13 id
      replace hb14 := hb14.adds k32
      replace hb16 := hb16.adds k32
      replace K := K.trans (k32.any _)
      refine WL.store (v := GOp.val (nearOp r22)) (i := 0) (cs' := (Value.cells (GOp.val (nearOp r22)))) hb31 (k := fun w35 hb36 k37 => ?_)
      replace hb13 := k37.heap hb13 n34
      replace hb14 := hb14.keeps k37 (fun i hi e => (hb14.offT hb31 (by decide)) (e ▸ hi))
      replace hb16 := hb16.keeps k37 (fun i hi e => (hb16.offT hb31 (by decide)) (e ▸ hi))
      replace K := K.trans' k37 (fun i hi e => absurd (e ▸ hi) (Nat.not_lt.2 z33))
      clear hb31
      refine WL.nil ?_
      refine WX.seqN ?_
      refine WC.seq ?_
      have tl_ := hti.2.1
      refine WC.region ?_
      refine WL.load (v := .agg #[.slice Ao ti.rows.length co, .int .i64 ti.mode]) (ldN (T := 24) (i := 0) (m := 2) (l := [.slice Ao ti.rows.length co, .int .i64 ti.mode]) hb13) (k := ?_)
      refine WL.load (v := GOp.val (nearOp r22)) (ldN (T := 46) (i := 0) (m := 10) (l := (Value.cells (GOp.val (nearOp r22))).toList) hb36) (k := ?_)
      have oc38 := SlAt.cell hb16
      refine WL.callG (d := 34) (f := 30) (args := #[.agg #[.slice Ao ti.rows.length co, .int .i64 ti.mode], GOp.val (nearOp r22)]) (tApply_c (cp := co) (hb16.sl ekRow) (by omega) (by omega) ti.mode (nearOp r22)) (k := fun e_ w39 h_ => ?_)
      obtain ⟨A40, c41, rfl, ho42, k43, ol44⟩ := h_
      refine ⟨_, rfl, ?_⟩
      have ol45 := fun i h => Nat.le_trans K.size (ol44 i h)
      replace hb13 := k43.heap hb13 id
      replace hb14 := hb14.adds k43
      replace hb16 := hb16.adds k43
      replace hb36 := k43.heap hb36 id
      replace K := K.trans (k43.any _)
      clear ol44
      have al46 := applyT_len ti (nearOp r22)
      refine WL.op (d := 31) (.tuple #[.agg #[.slice A40 (((applyT ti (nearOp r22)).1.rows).length) c41, .int .i64 ((applyT ti (nearOp r22)).1.mode)], .int .i64 ((applyT ti (nearOp r22)).2)]) (k := ?_)
      refine WL.op (d := 35) (.agg #[.slice A40 (((applyT ti (nearOp r22)).1.rows).length) c41, .int .i64 ((applyT ti (nearOp r22)).1.mode)]) (k := ?_)
      refine WL.op (d := 36) (.int .i64 ((applyT ti (nearOp r22)).2)) (k := ?_)
      refine WL.new (d := 8) (T := 24) #[.slice none 0 0, .int .i64 0] (k := fun b47 w48 g49 hb50 k51 => ?_)
      have z52 := Nat.le_trans K.size g49
      have n53 : b3 ≠ b47 := Nat.ne_of_lt (Nat.lt_of_lt_of_le (lt_of_heap hb13) g49)
      have n54 : b28 ≠ b47 := Nat.ne_of_lt (Nat.lt_of_lt_of_le (lt_of_heap hb36) g49)
      replace hb13 := k51.heap hb13 id
      replace hb14 := hb14.adds k51
      replace hb16 := hb16.adds k51
      replace hb36 := k51.heap hb36 id
      replace ho42 := ho42.adds k51
      replace K := K.trans (k51.any _)
      refine WL.store (v := .agg #[.slice A40 (((applyT ti (nearOp r22)).1.rows).length) c41, .int .i64 ((applyT ti (nearOp r22)).1.mode)]) (i := 0) (cs' := #[.slice A40 (((applyT ti (nearOp r22)).1.rows).length) c41, .int .i64 ((applyT ti (nearOp r22)).1.mode)]) hb50 (k := fun w55 hb56 k57 => ?_)
      replace hb13 := k57.heap hb13 n53
      replace hb14 := hb14.keeps k57 (fun i hi e => (hb14.offT hb50 (by decide)) (e ▸ hi))
      replace hb16 := hb16.keeps k57 (fun i hi e => (hb16.offT hb50 (by decide)) (e ▸ hi))
      replace hb36 := k57.heap hb36 n54
      replace ho42 := ho42.keeps k57 (fun i hi e => (ho42.offT hb50 (by decide)) (e ▸ hi))
      replace K := K.trans' k57 (fun i hi e => absurd (e ▸ hi) (Nat.not_lt.2 z52))
      clear hb50
      refine WL.op (d := 9) (.int .i64 ((applyT ti (nearOp r22)).2)) (k := ?_)
      refine WL.nil ?_
      refine WX.seqN ?_
      refine WC.seq ?_
      refine WC.region ?_
      refine WL.op (d := 37) (.int .i64 ((applyT ti (nearOp r22)).2)) (k := ?_)
      refine WL.op (d := 38) (.bool (((applyT ti (nearOp r22)).2) == 0)) (k := ?_)
      refine WL.nil ?_
      refine WX.seqN ?_
      refine WC.cond (b := ((applyT ti (nearOp r22)).2) == 0) (ht := fun h58 => ?_) (hf := fun h58 => ?_)
      · have ph58 := eq_of_beq h58
        refine WC.seq ?_
        have ph59 := (apply_ok ph58).2.2
        have h59 : decide (GOp.ok (nearOp r22)) = true := decide_eq_true ph59
        refine WC.region ?_
        refine WL.load (v := GOp.val (nearOp r22)) (ldN (T := 46) (i := 0) (m := 10) (l := (Value.cells (GOp.val (nearOp r22))).toList) hb36) (k := ?_)
        refine WL.callG (d := 41) (f := 31) (args := #[GOp.val (nearOp r22)]) (u13Bytes_ok (nearOp r22) ph59 w55) (k := fun e_ w61 h_ => ⟨.tuple #[.string ⟨(GOp.enc (nearOp r22)).toArray⟩, .int .i64 0], h_.1, ?_⟩)
        have k62 := h_.2; clear h_
        replace hb13 := k62.heap hb13 id
        replace hb14 := hb14.adds k62
        replace hb16 := hb16.adds k62
        replace hb36 := k62.heap hb36 id
        replace ho42 := ho42.adds k62
        replace hb56 := k62.heap hb56 id
        replace K := K.trans (k62.any _)
        have ln60 := enc_len43 ph59
        refine WL.op (d := 39) (.tuple #[.string ⟨(GOp.enc (nearOp r22)).toArray⟩, .int .i64 0]) (k := ?_)
        refine WL.op (d := 42) (.string ⟨(GOp.enc (nearOp r22)).toArray⟩) (k := ?_)
        refine WL.op (d := 43) (.int .i64 0) (k := ?_)
        refine WL.op (d := 10) (.string ⟨(GOp.enc (nearOp r22)).toArray⟩) (k := ?_)
        refine WL.op (d := 11) (.int .i64 0) (k := ?_)
        refine WL.nil ?_
        refine WX.seqN ?_
        refine WC.seq ?_
        refine WC.region ?_
        refine WL.op (d := 44) (.slice Bo txs.length bo) (k := ?_)
        refine WL.op (d := 45) (.string ⟨(GOp.enc (nearOp r22)).toArray⟩) (k := ?_)
        refine WL.newF (d := 46) (T := 9) #[.string ⟨(GOp.enc (nearOp r22)).toArray⟩] (fun b => .slice (some ⟨b, 0, none⟩) 1 1) (k := fun b63 w64 g65 hb66 k67 => ?_)
        have z68 := Nat.le_trans K.size g65
        have n69 : b3 ≠ b63 := Nat.ne_of_lt (Nat.lt_of_lt_of_le (lt_of_heap hb13) g65)
        have n70 : b28 ≠ b63 := Nat.ne_of_lt (Nat.lt_of_lt_of_le (lt_of_heap hb36) g65)
        have n71 : b47 ≠ b63 := Nat.ne_of_lt (Nat.lt_of_lt_of_le (lt_of_heap hb56) g65)
        replace hb13 := k67.heap hb13 id
        replace hb14 := hb14.adds k67
        replace hb16 := hb16.adds k67
        replace hb36 := k67.heap hb36 id
        replace ho42 := ho42.adds k67
        replace hb56 := k67.heap hb56 id
        replace K := K.trans (k67.any _)
        refine WL.append (d := 47) (T := 57) (cl := strC) (xs := txs) (ys := [GOp.enc (nearOp r22)]) (c := 1) ekStr hb14 (SlAt.of_lit (ys := [GOp.enc (nearOp r22)]) ekStr hb66 (by kernel_rfl)) (by simp; omega) (k := fun A72 c73 w74 ho75 k76 n77 => ?_)
        have ol78 := olink_step ol15 K n77
        replace hb13 := k76.heap hb13 (hb14.offT hb13 (by decide))
        replace hb16 := hb16.keeps k76 (OwAt.offOw hb16 hb14 (by decide))
        replace hb36 := k76.heap hb36 (hb14.offT hb36 (by decide))
        replace ho42 := ho42.keeps k76 (OwAt.offOw ho42 hb14 (by decide))
        replace hb56 := k76.heap hb56 (hb14.offT hb56 (by decide))
        replace K := K.trans' k76 (fun i hi e => absurd hi (Nat.not_lt.2 (ol15 i e)))
        clear hb14
        refine WL.op (d := 5) (.slice A72 ((txs ++ [GOp.enc (nearOp r22)]).length) c73) (k := ?_)
        refine WL.nil ?_
        refine WX.seqN ?_
        refine WC.region ?_
        refine WL.load (v := .agg #[.slice A40 (((applyT ti (nearOp r22)).1.rows).length) c41, .int .i64 ((applyT ti (nearOp r22)).1.mode)]) (ldN (T := 24) (i := 0) (m := 2) (l := [.slice A40 (((applyT ti (nearOp r22)).1.rows).length) c41, .int .i64 ((applyT ti (nearOp r22)).1.mode)]) hb56) (k := ?_)
        refine WL.store (v := .agg #[.slice A40 (((applyT ti (nearOp r22)).1.rows).length) c41, .int .i64 ((applyT ti (nearOp r22)).1.mode)]) (i := 0) (cs' := #[.slice A40 (((applyT ti (nearOp r22)).1.rows).length) c41, .int .i64 ((applyT ti (nearOp r22)).1.mode)]) hb13 (k := fun w79 hb80 k81 => ?_)
        replace ho75 := ho75.keeps k81 (fun i hi e => (ho75.offT hb13 (by decide)) (e ▸ hi))
        replace hb16 := hb16.keeps k81 (fun i hi e => (hb16.offT hb13 (by decide)) (e ▸ hi))
        replace hb36 := k81.heap hb36 (Ne.symm n34)
        replace ho42 := ho42.keeps k81 (fun i hi e => (ho42.offT hb13 (by decide)) (e ▸ hi))
        replace hb56 := k81.heap hb56 (Ne.symm n53)
        replace K := K.trans' k81 (fun i hi e => absurd (e ▸ hi) (Nat.not_lt.2 z8))
        clear hb13
        refine WL.nil ?_
        refine WX.blockN ?_
        refine WX.seqN ?_
        refine WC.region ?_
        refine WL.op (d := 24) (.int .i64 i) (k := ?_)
        refine WL.opE (d := 25) (.int .i64 (IntKind.i64.wrap (i + 1))) (v := .int .i64 (i + 1)) (congrArg (Value.int .i64) (IntWalk.i64_in _ (by omega))) (k := ?_)
        refine WL.op (d := 6) (.int .i64 (i + 1)) (k := ?_)
        refine WL.nil ?_
        refine WX.round (i + 1, txs ++ [GOp.enc (nearOp r22)], A72, c73, (applyT ti (nearOp r22)).1, A40, c41) (by show (l.length - (i + 1)).toNat < (l.length - i).toNat; omega) ⟨(by kernel_rfl), (by kernel_rfl), (by kernel_rfl), (by kernel_rfl), (by kernel_rfl), (by kernel_rfl), (by kernel_rfl), (by kernel_rfl), trivial⟩ ⟨K, hb80, ho75, ol78, ho42, ol45, (by omega), (by omega), (by omega), (by simp; omega), (fun s h => by rw [List.mem_append, List.mem_singleton] at h; rcases h with h | rfl; exact txm s h; first | exact Nat.zero_le _ | omega | (simp; omega)), (apply_ok ph58).1, (replay_enc hrep ph58)⟩
      · have ph58 := ne_of_beq_false h58
        refine WC.skip ?_
        refine WX.blockN ?_
        refine WX.seqN ?_
        refine WC.region ?_
        refine WL.op (d := 24) (.int .i64 i) (k := ?_)
        refine WL.opE (d := 25) (.int .i64 (IntKind.i64.wrap (i + 1))) (v := .int .i64 (i + 1)) (congrArg (Value.int .i64) (IntWalk.i64_in _ (by omega))) (k := ?_)
        refine WL.op (d := 6) (.int .i64 (i + 1)) (k := ?_)
        refine WL.nil ?_
        refine WX.round (i + 1, txs, Bo, bo, ti, Ao, co) (by show (l.length - (i + 1)).toNat < (l.length - i).toNat; omega) ⟨(by kernel_rfl), (by kernel_rfl), (by kernel_rfl), (by kernel_rfl), (by kernel_rfl), (by kernel_rfl), (by kernel_rfl), (by kernel_rfl), trivial⟩ ⟨K, hb13, hb14, ol15, hb16, ol17, (by omega), (by omega), (by omega), (by omega), txm, hti, hrep⟩
    · have ph19 := of_decide_eq_false h19
      refine WC.exit ?_
      refine WX.seqE ?_
      refine WX.seqE ?_
      refine WX.blockE ?_
      refine WX.seqN ?_
      refine WC.seq ?_
      refine WC.region ?_
      refine WL.op (d := 50) (.agg #[.slice none 0 0, .int .i64 0]) (k := ?_)
      refine WL.op (d := 51) (.slice Bo txs.length bo) (k := ?_)
      refine WL.callG (d := 52) (f := 32) (args := #[.agg #[.slice none 0 0, .int .i64 0], .slice Bo txs.length bo]) (tReplay_e (lc := bo) (hb14.sl ekStr) (by omega) (fun s h => Nat.le_trans (txm s h) (by decide)) hrep) (k := fun e_ w82 h_ => ?_)
      obtain ⟨A83, c84, rfl, hs85, k86⟩ := h_
      refine ⟨_, rfl, ?_⟩
      replace hb13 := k86.heap hb13 id
      replace hb14 := hb14.adds k86
      replace hb16 := hb16.adds k86
      replace K := K.trans (k86.any _)
      refine WL.op (d := 49) (.tuple #[.agg #[.slice A83 ((ti.rows).length) c84, .int .i64 ti.mode], .int .i64 (txs.length : Int)]) (k := ?_)
      refine WL.op (d := 53) (.agg #[.slice A83 ((ti.rows).length) c84, .int .i64 ti.mode]) (k := ?_)
      refine WL.op (d := 54) (.int .i64 (txs.length : Int)) (k := ?_)
      refine WL.new (d := 12) (T := 24) #[.slice none 0 0, .int .i64 0] (k := fun b88 w89 g90 hb91 k92 => ?_)
      have z93 := Nat.le_trans K.size g90
      have n94 : b3 ≠ b88 := Nat.ne_of_lt (Nat.lt_of_lt_of_le (lt_of_heap hb13) g90)
      have n95 := SlAt.off_new hs85 g90
      replace hb13 := k92.heap hb13 id
      replace hb14 := hb14.adds k92
      replace hb16 := hb16.adds k92
      replace hs85 := hs85.adds k92
      replace K := K.trans (k92.any _)
      refine WL.store (v := .agg #[.slice A83 ((ti.rows).length) c84, .int .i64 ti.mode]) (i := 0) (cs' := #[.slice A83 ((ti.rows).length) c84, .int .i64 ti.mode]) hb91 (k := fun w96 hb97 k98 => ?_)
      replace hb13 := k98.heap hb13 n94
      replace hb14 := hb14.keeps k98 (fun i hi e => (hb14.offT hb91 (by decide)) (e ▸ hi))
      replace hb16 := hb16.keeps k98 (fun i hi e => (hb16.offT hb91 (by decide)) (e ▸ hi))
      replace hs85 := hs85.keeps k98 n95
      replace K := K.trans' k98 (fun i hi e => absurd (e ▸ hi) (Nat.not_lt.2 z93))
      clear hb91
      refine WL.op (d := 13) (.int .i64 (txs.length : Int)) (k := ?_)
      refine WL.nil ?_
      refine WX.seqN ?_
      refine WC.seq ?_
      have tl_ := hti.2.1
      have h99 : tokB (⟨ti.rows, ti.mode⟩ : GTable) = true := tok_eqt hti
      refine WC.region ?_
      refine WL.op (d := 55) (.bool true) (k := ?_)
      refine WL.op (d := 56) (.bool true) (k := ?_)
      refine WL.op (d := 57) (.int .i64 (txs.length : Int)) (k := ?_)
      refine WL.op (d := 58) (.slice Bo txs.length bo) (k := ?_)
      refine WL.op (d := 59) (.int .i64 (txs.length : Int)) (k := ?_)
      refine WL.opE (d := 60) (.bool ((txs.length : Int) == (txs.length : Int))) (v := .bool true) (congrArg Value.bool (beq_self_eq_true _)) (k := ?_)
      refine WL.op (d := 61) (.bool true) (k := ?_)
      refine WL.op (d := 62) (.bool true) (k := ?_)
      refine WL.load (v := .agg #[.slice A83 ((ti.rows).length) c84, .int .i64 ti.mode]) (ldN (T := 24) (i := 0) (m := 2) (l := [.slice A83 ((ti.rows).length) c84, .int .i64 ti.mode]) hb97) (k := ?_)
      refine WL.load (v := .agg #[.slice Ao ti.rows.length co, .int .i64 ti.mode]) (ldN (T := 24) (i := 0) (m := 2) (l := [.slice Ao ti.rows.length co, .int .i64 ti.mode]) hb13) (k := ?_)
      refine WL.callG (d := 65) (f := 21) (args := #[.agg #[.slice A83 ((ti.rows).length) c84, .int .i64 ti.mode], .agg #[.slice Ao ti.rows.length co, .int .i64 ti.mode]]) (tSame_r (cp := c84) (cq := co) (ma := ti.mode) hs85 (hb16.sl ekRow) (by first | omega | (simp; omega))) (k := fun e_ w100 h_ => ⟨.bool true, h_.1, ?_⟩)
      have k101 := h_.2; clear h_
      replace hb13 := k101.heap hb13 id
      replace hb14 := hb14.adds k101
      replace hb16 := hb16.adds k101
      replace hs85 := hs85.adds k101
      replace hb97 := k101.heap hb97 id
      replace K := K.trans (k101.any _)
      refine WL.op (d := 66) (.bool true) (k := ?_)
      refine WL.op (d := 67) (.bool true) (k := ?_)
      refine WL.load (v := .agg #[.slice Ao ti.rows.length co, .int .i64 ti.mode]) (ldN (T := 24) (i := 0) (m := 2) (l := [.slice Ao ti.rows.length co, .int .i64 ti.mode]) hb13) (k := ?_)
      refine WL.callG (d := 69) (f := 36) (args := #[.agg #[.slice Ao ti.rows.length co, .int .i64 ti.mode]]) (tCheck_c (cp := co) (hb16.sl ekRow) (by first | omega | simp | (simp; omega))) (k := fun e_ w102 h_ => ⟨.bool (tokB (⟨ti.rows, ti.mode⟩ : GTable)), h_.1, ?_⟩)
      have k103 := h_.2; clear h_
      replace hb13 := k103.heap hb13 id
      replace hb14 := hb14.adds k103
      replace hb16 := hb16.adds k103
      replace hs85 := hs85.adds k103
      replace hb97 := k103.heap hb97 id
      replace K := K.trans (k103.any _)
      refine WL.op (d := 70) (.bool (tokB (⟨ti.rows, ti.mode⟩ : GTable))) (k := ?_)
      refine WL.op (d := 2) (.bool (tokB (⟨ti.rows, ti.mode⟩ : GTable))) (k := ?_)
      refine WL.nil ?_
      refine WX.seqN ?_
      refine WC.ret ?_
      refine WX.ret (rs := [.tmp 2]) [.bool (tokB (⟨ti.rows, ti.mode⟩ : GTable))] (.bool (tokB (⟨ti.rows, ti.mode⟩ : GTable))) ⟨(by kernel_rfl), trivial⟩ (k := ?_)
      exact ⟨ret_bool h99, K⟩
  · have ph18 := of_decide_eq_false h18
    refine WL.rw (t := 20) (v := .bool false) (congrArg Value.bool h18) (k := ?_)
    refine WL.skip (d := 21) (k := ?_)
    refine WL.skip (d := 22) (k := ?_)
    refine WL.op (d := 23) (.bool false) (k := ?_)
    refine WL.nil ?_
    refine WX.seqN ?_
    refine WC.condF (k := ?_)
    refine WC.exit ?_
    refine WX.seqE ?_
    refine WX.seqE ?_
    refine WX.blockE ?_
    refine WX.seqN ?_
    refine WC.seq ?_
    refine WC.region ?_
    refine WL.op (d := 50) (.agg #[.slice none 0 0, .int .i64 0]) (k := ?_)
    refine WL.op (d := 51) (.slice Bo txs.length bo) (k := ?_)
    refine WL.callG (d := 52) (f := 32) (args := #[.agg #[.slice none 0 0, .int .i64 0], .slice Bo txs.length bo]) (tReplay_e (lc := bo) (hb14.sl ekStr) (by omega) (fun s h => Nat.le_trans (txm s h) (by decide)) hrep) (k := fun e_ w104 h_ => ?_)
    obtain ⟨A105, c106, rfl, hs107, k108⟩ := h_
    refine ⟨_, rfl, ?_⟩
    replace hb13 := k108.heap hb13 id
    replace hb14 := hb14.adds k108
    replace hb16 := hb16.adds k108
    replace K := K.trans (k108.any _)
    refine WL.op (d := 49) (.tuple #[.agg #[.slice A105 ((ti.rows).length) c106, .int .i64 ti.mode], .int .i64 (txs.length : Int)]) (k := ?_)
    refine WL.op (d := 53) (.agg #[.slice A105 ((ti.rows).length) c106, .int .i64 ti.mode]) (k := ?_)
    refine WL.op (d := 54) (.int .i64 (txs.length : Int)) (k := ?_)
    refine WL.new (d := 12) (T := 24) #[.slice none 0 0, .int .i64 0] (k := fun b110 w111 g112 hb113 k114 => ?_)
    have z115 := Nat.le_trans K.size g112
    have n116 : b3 ≠ b110 := Nat.ne_of_lt (Nat.lt_of_lt_of_le (lt_of_heap hb13) g112)
    have n117 := SlAt.off_new hs107 g112
    replace hb13 := k114.heap hb13 id
    replace hb14 := hb14.adds k114
    replace hb16 := hb16.adds k114
    replace hs107 := hs107.adds k114
    replace K := K.trans (k114.any _)
    refine WL.store (v := .agg #[.slice A105 ((ti.rows).length) c106, .int .i64 ti.mode]) (i := 0) (cs' := #[.slice A105 ((ti.rows).length) c106, .int .i64 ti.mode]) hb113 (k := fun w118 hb119 k120 => ?_)
    replace hb13 := k120.heap hb13 n116
    replace hb14 := hb14.keeps k120 (fun i hi e => (hb14.offT hb113 (by decide)) (e ▸ hi))
    replace hb16 := hb16.keeps k120 (fun i hi e => (hb16.offT hb113 (by decide)) (e ▸ hi))
    replace hs107 := hs107.keeps k120 n117
    replace K := K.trans' k120 (fun i hi e => absurd (e ▸ hi) (Nat.not_lt.2 z115))
    clear hb113
    refine WL.op (d := 13) (.int .i64 (txs.length : Int)) (k := ?_)
    refine WL.nil ?_
    refine WX.seqN ?_
    refine WC.seq ?_
    have tl_ := hti.2.1
    have h121 : tokB (⟨ti.rows, ti.mode⟩ : GTable) = true := tok_eqt hti
    refine WC.region ?_
    refine WL.op (d := 55) (.bool true) (k := ?_)
    refine WL.op (d := 56) (.bool true) (k := ?_)
    refine WL.op (d := 57) (.int .i64 (txs.length : Int)) (k := ?_)
    refine WL.op (d := 58) (.slice Bo txs.length bo) (k := ?_)
    refine WL.op (d := 59) (.int .i64 (txs.length : Int)) (k := ?_)
    refine WL.opE (d := 60) (.bool ((txs.length : Int) == (txs.length : Int))) (v := .bool true) (congrArg Value.bool (beq_self_eq_true _)) (k := ?_)
    refine WL.op (d := 61) (.bool true) (k := ?_)
    refine WL.op (d := 62) (.bool true) (k := ?_)
    refine WL.load (v := .agg #[.slice A105 ((ti.rows).length) c106, .int .i64 ti.mode]) (ldN (T := 24) (i := 0) (m := 2) (l := [.slice A105 ((ti.rows).length) c106, .int .i64 ti.mode]) hb119) (k := ?_)
    refine WL.load (v := .agg #[.slice Ao ti.rows.length co, .int .i64 ti.mode]) (ldN (T := 24) (i := 0) (m := 2) (l := [.slice Ao ti.rows.length co, .int .i64 ti.mode]) hb13) (k := ?_)
    refine WL.callG (d := 65) (f := 21) (args := #[.agg #[.slice A105 ((ti.rows).length) c106, .int .i64 ti.mode], .agg #[.slice Ao ti.rows.length co, .int .i64 ti.mode]]) (tSame_r (cp := c106) (cq := co) (ma := ti.mode) hs107 (hb16.sl ekRow) (by first | omega | (simp; omega))) (k := fun e_ w122 h_ => ⟨.bool true, h_.1, ?_⟩)
    have k123 := h_.2; clear h_
    replace hb13 := k123.heap hb13 id
    replace hb14 := hb14.adds k123
    replace hb16 := hb16.adds k123
    replace hs107 := hs107.adds k123
    replace hb119 := k123.heap hb119 id
    replace K := K.trans (k123.any _)
    refine WL.op (d := 66) (.bool true) (k := ?_)
    refine WL.op (d := 67) (.bool true) (k := ?_)
    refine WL.load (v := .agg #[.slice Ao ti.rows.length co, .int .i64 ti.mode]) (ldN (T := 24) (i := 0) (m := 2) (l := [.slice Ao ti.rows.length co, .int .i64 ti.mode]) hb13) (k := ?_)
    refine WL.callG (d := 69) (f := 36) (args := #[.agg #[.slice Ao ti.rows.length co, .int .i64 ti.mode]]) (tCheck_c (cp := co) (hb16.sl ekRow) (by first | omega | simp | (simp; omega))) (k := fun e_ w124 h_ => ⟨.bool (tokB (⟨ti.rows, ti.mode⟩ : GTable)), h_.1, ?_⟩)
    have k125 := h_.2; clear h_
    replace hb13 := k125.heap hb13 id
    replace hb14 := hb14.adds k125
    replace hb16 := hb16.adds k125
    replace hs107 := hs107.adds k125
    replace hb119 := k125.heap hb119 id
    replace K := K.trans (k125.any _)
    refine WL.op (d := 70) (.bool (tokB (⟨ti.rows, ti.mode⟩ : GTable))) (k := ?_)
    refine WL.op (d := 2) (.bool (tokB (⟨ti.rows, ti.mode⟩ : GTable))) (k := ?_)
    refine WL.nil ?_
    refine WX.seqN ?_
    refine WC.ret ?_
    refine WX.ret (rs := [.tmp 2]) [.bool (tokB (⟨ti.rows, ti.mode⟩ : GTable))] (.bool (tokB (⟨ti.rows, ti.mode⟩ : GTable))) ⟨(by kernel_rfl), trivial⟩ (k := ?_)
    exact ⟨ret_bool h121, K⟩

end Go.Proofs.Ytpkcohhfkeinmaa
